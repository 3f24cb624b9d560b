/- % -/
import Derived.Test.YtolpmfhiegpohaaGreatDoorQRpN
import Derived.Deep.WholeRow
import Derived.Laws.IdiomRangeMap
import Derived.Laws.IdiomStrings
import Derived.Laws.Rows
import Derived.Test.YtolpmfhiegpohaaGreatDoorQBmJ
import Derived.Deep.DeepCutAuto
import Derived.Deep.QuietTactic
import Derived.BigQuiet
import Derived.Laws.CopyOwn
import Derived.IntWalk
import Derived.Lib.AppendStr
import Derived.Lib.Builder
import Derived.Lib.UnsafeStr
import Derived.WalkKit
namespace Go.Proofs.YtolpmfhiegpohaaGreatDoor
set_option linter.unusedVariables false
set_option linter.unusedSimpArgs false
set_option maxRecDepth 100000
open Go Go.RowKit
noncomputable section
def rpC(v:Value):Array Value:=⟨Tryz.zeroCells313.toList.set 256 v⟩
theorem b17(v:Value):(rpC v).size=257:=by
 show(Tryz.zeroCells313.toList.set 256 v).length=_;rw[List.length_set]
 kernel_rfl
theorem d7m(w:World)(v:Value)(h1:v.oneCell'=true):(storeCells ⟨w.heap.size,0,none⟩ (Tryz.zeroCells313.toList.set 256 v)).run Tryz.prog (w.alloc (.cells Tryz.zeroCells313 313)) = .ok () (w.alloc (.cells (rpC v) 313)):=by
 refine run_storeCells_new w 313 Tryz.zeroCells313 (rpC v) ?_ ?_ ?_
 ·rw[b17];kernel_rfl
 ·rw[b17];kernel_rfl
 ·rw[Array.all_eq_true'];intro x hx;have hx:x∈Tryz.zeroCells313.toList.set 256 v:=by simpa [rpC]using hx
  rcases List.mem_or_eq_of_mem_set hx with h|h
  ·have:Tryz.zeroCells313.toList.all (·.oneCell')=true:=by kernel_rfl
   exact List.all_eq_true.1 this x h
  ·rw[h];exact h1
theorem d5t(w:World)(o:Obj)(v:Value)(h1:v.oneCell'=true):(storeCells ⟨w.heap.size+1,0,none⟩ (Tryz.zeroCells313.toList.set 256 v)).run Tryz.prog ((w.alloc o).alloc (.cells Tryz.zeroCells313 313)) = .ok () ((w.alloc o).alloc (.cells (rpC v) 313)):=by
 have:=d7m (w.alloc o) v h1;have e:(w.alloc o).heap.size=w.heap.size+1:=by simp
 rw[e]at this;exact this
theorem c6Q(a:UInt8)(h:0<(ByteArray.mk #[a]).size):(ByteArray.mk #[a])[0]'h=a:=rfl
theorem b6q:(10:UInt8).toNat=10:=rfl
theorem b6r:(34:UInt8).toNat=34:=rfl
theorem b6s:(92:UInt8).toNat=92:=rfl
attribute [local go_sem] c6Q b6q b6r b6s
def KeepT(T:TypeId)(w w':World):Prop:=∀(g:Nat) (cs:Array Value) (fz:Nat×Nat),w.heap[g]? = some (.cells cs T fz)->w'.heap[g]? = some (.cells cs T fz)
theorem a1h{w:World}{g:Nat}{o:Obj}(h:w.heap[g]? = some o):g<w.heap.size:=by
 rcases Nat.lt_or_ge g w.heap.size with h'|h'
 ·exact h'
 ·rw[Array.getElem?_eq_none h']at h;cases h
theorem KeepT.trans{T:TypeId}{a b c:World}(h:KeepT T a b)(k:KeepT T b c):KeepT T a c:=fun g cs fz e=>k g cs fz (h g cs fz e)
theorem KeepT.alloc{T:TypeId}(w:World)(o:Obj):KeepT T w (w.alloc o):=fun g cs fz h=>(Below.heap_alloc w o g (a1h h)).trans h
theorem KeepT.drew{T:TypeId}(w:World):KeepT T w w.drew:=fun _ _ _ h=>h
theorem KeepT.set{T U:TypeId}{w:World}{B:Nat}{cur:Array Value}{fz:Nat×Nat}(hB:w.heap[B]? = some (.cells cur U fz))(hT:U≠T)(j:Nat)(x:Value):KeepT T w (w.setCell ⟨B,j,none⟩ x):=fun g cs fz' h=>by
 have hne:g≠B:=by
  rintro rfl;rw[hB]at h;exact hT (Obj.cells.inj (Option.some.inj h)).2.1
 exact(Below.heap_setCell w ⟨B,j,none⟩ x g hne).trans h
theorem KeepT.grown{T e:TypeId}{w w':World}{base size n:Nat}{v:Value}{xs:List Value}(hown:w.ownsRow base e size v n xs)(hg:w.grownBy w' v.ownBlock)(hT:e≠T):KeepT T w w':=fun g cs fz h=>by
 refine(hg.block g (a1h h) ?_).trans h;intro hk;rcases hown.2 with⟨rfl,_⟩|⟨q,cap,cur,rfl,_,hh,_⟩
 ·cases hk
 ·have:g=q:=by simpa [Value.ownBlock]using hk
  subst this;rw[hh]at h;exact hT (Obj.cells.inj (Option.some.inj h)).2.1
theorem KeepT.own{T:TypeId}{w w':World}(h:KeepT T w w'){base size n:Nat}{v:Value}{xs:List Value}(ho:w.ownsRow base T size v n xs):w'.ownsRow base T size v n xs:=by
 obtain⟨h1,h2⟩:=ho;refine⟨h1,?_⟩;rcases h2 with h2|⟨g,cap,cur,hv,hg,hh,r⟩
 ·exact .inl h2
 ·exact .inr ⟨g,cap,cur,hv,hg,h _ _ _ hh,r⟩
def RpBy(w wr:World)(u:Value)(l:List UInt8):Prop:=∃(g cap:Nat) (cs:Array Value) (fz:Nat×Nat),u = .slice (some ⟨g,0,none⟩) l.length cap/\w.heap.size<=g/\wr.heap[g]? = some (.cells cs 5 fz)/\∀(j:Nat) (b:UInt8),l[j]? = some b->cs[j]? = some (.int .u8 (b.toNat:Int))
theorem RpBy.keep{w wr wr':World}{u:Value}{l:List UInt8}(h:RpBy w wr u l)(k:KeepT 5 wr wr'):RpBy w wr' u l:=by
 obtain⟨g,cap,cs,fz,h1,h2,h3,h4⟩:=h;exact⟨g,cap,cs,fz,h1,h2,k _ _ _ h3,h4⟩
theorem c6O(w:World)(b:UInt8):(convert 84 9 (.slice (some ⟨w.heap.size,0,none⟩) 1 1)).run Tryz.prog (w.alloc (.cells #[.int .u8 (b.toNat:Int)] 5)) = .ok (.string ⟨#[b]⟩) (w.alloc (.cells #[.int .u8 (b.toNat:Int)] 5)):=by
 refine run_convert_bytes_back (P:=Tryz.prog) (w.alloc (.cells #[.int .u8 (b.toNat:Int)] 5)) 84 9 5 ⟨w.heap.size,0,none⟩ 1 [b] Tryz.underlying84 Tryz.underlying5 Tryz.underlying9 (fun j hj=>?_);have h0:j=0:=by simp at hj;exact hj
 subst h0;have e:((⟨w.heap.size,0,none⟩:Addr).add 0)=⟨w.heap.size,0,none⟩:=by unfold Addr.add;simp
 rw[e,cell_of_row _ _ 0 _ _ _ (heap_alloc_new w _)];rfl
theorem c6S(s:ByteArray)(w:World):(convert 9 84 (.string s)).run Tryz.prog w = .ok (.slice (some ⟨w.heap.size,0,none⟩) s.size (grownCap w s.size 0 5)) (w.drew.alloc (.cells (bytesRow s (grownCap w s.size 0 5)) 5 ((bytesRow s (grownCap w s.size 0 5)).size,(bytesRow s (grownCap w s.size 0 5)).size+1))):=run_bytes_of_string (P:=Tryz.prog) w 9 84 5 s Tryz.underlying9 Tryz.underlying84 Tryz.underlying5
theorem a7w(w:World)(o:Obj):(w.alloc o).heap.size=w.heap.size+1:=by simp
def RpEnt(w wr:World)(k j:Nat)(u:Value):Prop:=if j=10/\1<=k then RpBy w wr u [92,110]else if j=34/\2<=k then RpBy w wr u [92,34]else if j=92/\3<=k then RpBy w wr u [92,92]else u = .slice none 0 0
def d5n:List Value:=[rpS [10],rpS [34],rpS [92]]
structure RpB(w:World)(B:Nat)(wr:World)(k:Nat)(cur:Array Value)(v:Value):Prop where
 ext:Ext w wr
 base:w.heap.size<=B
 blk:wr.heap[B]? = some (.cells cur 313 (0,0))
 size:cur.size=257
 at256:cur[256]? = some v
 own:wr.ownsRow w.heap.size 9 1 v k (d5n.take k)
 all:∀j,j<256->∃u,cur[j]? = some u/\RpEnt w wr k j u
theorem E4{w:World}{B:Nat}{cur:Array Value}{T:TypeId}(h:w.heap[B]? = some (.cells cur T (0,0)))(j:Nat):w.frozen? ⟨B,j,none⟩=false:=by simp[World.frozen?,h]
theorem a9E{w wr w2:World}{B k:Nat}{cur:Array Value}{v:Value}(hb:RpB w B wr k cur v)(o1:Obj)(hg:(wr.alloc o1).grownBy w2 v.ownBlock):
  w2.heap[B]? = some (.cells cur 313 (0,0))/\KeepT 5 wr w2:=by
 have hk:=fun T (hT:9≠T)=>(KeepT.alloc (T:=T) wr o1).trans (KeepT.grown (hb.own.alloc o1) hg hT)
 exact⟨hk _ (by decide) _ _ _ hb.blk,hk _ (by decide)⟩
theorem a0O{w:World}{B:Nat}{cur:Array Value}{T:TypeId}(hB:w.heap[B]? = some (.cells cur T (0,0)))(j:Nat)(x:Value):(w.setCell ⟨B,j,none⟩ x).heap[B]? = some (.cells (cur.setIfInBounds j x) T (0,0)):=by
 rw[heap_setCell_same w B j cur T x hB]
theorem a9F{w wr w2:World}{B k o:Nat}{cur:Array Value}{v v':Value}(hb:RpB w B wr k cur v)(hE:Ext w w2)(h2:w2.heap[B]? = some (.cells cur 313 (0,0)))(h5:KeepT 5 wr w2)
  (hown:w2.ownsRow w.heap.size 9 1 v' (k+1) (d5n.take (k+1))) (bs:Array Value) (fz:Nat×Nat) (l:List UInt8) (cap:Nat) (hl:∀(j:Nat) (b:UInt8),l[j]? = some b->bs[j]? = some (.int .u8 (b.toNat:Int)))
  (ho:o<256) (hent:∀w' u,RpBy w w' u l->RpEnt w w' (k+1) o u) (hoth:∀w' j u,j≠o->RpEnt w w' k j u->RpEnt w w' (k+1) j u):
  RpB w B (((w2.setCell ⟨B,256,none⟩ v').setCell ⟨B,o,none⟩ (.slice (some ⟨w2.heap.size,0,none⟩) l.length cap)).alloc (.cells bs 5 fz)).drew (k+1)
   ((cur.setIfInBounds 256 v').setIfInBounds o (.slice (some ⟨w2.heap.size,0,none⟩) l.length cap)) v':=by
 have hs:=hb.size;have e1:=a0O h2 256 v';have e2:=a0O e1 o (.slice (some ⟨w2.heap.size,0,none⟩) l.length cap);have hk:=fun T (hT:313≠T)=>(((KeepT.set (T:=T) h2 hT 256 v').trans (KeepT.set e1 hT o (.slice (some ⟨w2.heap.size,0,none⟩) l.length cap))).trans (KeepT.alloc _ (.cells bs 5 fz))).trans (KeepT.drew _)
 refine⟨?_,hb.base,(Below.heap_alloc _ _ B (a1h e2)).trans e2,by simp[hs],?_,(hk 9 (by decide)).own hown,?_⟩
 ·exact((((hE.set_ (by exact hb.base) _).set_ (by exact hb.base) _).alloc _).drew)
 ·rw[Array.getElem?_setIfInBounds_ne (by omega),Array.getElem?_setIfInBounds_self_of_lt (by omega)]
 ·intro j hj;by_cases hjo:j=o
  ·subst hjo;refine⟨_,by rw[Array.getElem?_setIfInBounds_self_of_lt (by simp;omega)],hent _ _ ?_⟩;refine⟨w2.heap.size,cap,bs,fz,rfl,hE.size,?_,hl⟩;have:=heap_alloc_new ((w2.setCell ⟨B,256,none⟩ v').setCell ⟨B,j,none⟩ (.slice (some ⟨w2.heap.size,0,none⟩) l.length cap)) (.cells bs 5 fz);have e:((w2.setCell ⟨B,256,none⟩ v').setCell ⟨B,j,none⟩ (.slice (some ⟨w2.heap.size,0,none⟩) l.length cap)).heap.size=w2.heap.size:=by simp
   rw[e]at this;exact this
  ·obtain⟨u,hu,hq⟩:=hb.all j hj;refine⟨u,by rw[Array.getElem?_setIfInBounds_ne (Ne.symm hjo),Array.getElem?_setIfInBounds_ne (by omega)];exact hu,?_⟩;refine hoth _ j u hjo ?_;have hk5:=h5.trans (hk 5 (by decide));unfold RpEnt at hq ⊢;split
   ·rw[if_pos (by assumption)]at hq;exact hq.keep hk5
   rw[if_neg (by assumption)]at hq;split
   ·rw[if_pos (by assumption)]at hq;exact hq.keep hk5
   rw[if_neg (by assumption)]at hq;split
   ·rw[if_pos (by assumption)]at hq;exact hq.keep hk5
   rw[if_neg (by assumption)]at hq;exact hq
theorem b6p(a b:UInt8)(cap:Nat):∀(j:Nat) (c:UInt8),[a,b][j]? = some c->(bytesRow ⟨#[a,b]⟩ cap)[j]? = some (.int .u8 (c.toNat:Int)):=by
 intro j c h;have hj:j=0\/j=1:=by
  have:=(List.getElem?_eq_some_iff.1 h).1;simp at this;omega
 have hb:bytesRow ⟨#[a,b]⟩ cap = #[.int .u8 (a.toNat:Int),.int .u8 (b.toNat:Int)]++Array.replicate (cap-2) (.int .u8 0):=by
  show(#[a,b].map _++_)=_;simp;rfl
 rcases hj with rfl|rfl<;>(simp at h;subst h;rw[hb,Array.getElem?_append_left (by simp)];simp)
theorem c6T(w:World):RpB w (w.heap.size+1) ((w.alloc (.cells (Array.replicate 3 (.string ⟨#[]⟩)) 9)).alloc (.cells (rpC (.slice (some ⟨w.heap.size,0,none⟩) 0 3)) 313)) 0 (rpC (.slice (some ⟨w.heap.size,0,none⟩) 0 3)) (.slice (some ⟨w.heap.size,0,none⟩) 0 3):=by
 have hz:Tryz.zeroCells313.toList=List.replicate 257 (.slice none 0 0):=by kernel_rfl
 have hget:∀j,j<256->(rpC (.slice (some ⟨w.heap.size,0,none⟩) 0 3))[j]? = some (.slice none 0 0):=by
  intro j hj;show(Array.mk (Tryz.zeroCells313.toList.set 256 _))[j]? = _;rw[List.getElem?_toArray,List.getElem?_set_ne (by omega),hz,List.getElem?_replicate,if_pos (by omega)]
 refine⟨((Ext.refl w).alloc _).alloc _,by omega,?_,b17 _,?_,?_,fun j hj=>⟨_,hget j hj,by simp[RpEnt]⟩⟩
 ·have:=heap_alloc_new (w.alloc (.cells (Array.replicate 3 (.string ⟨#[]⟩)) 9)) (.cells (rpC (.slice (some ⟨w.heap.size,0,none⟩) 0 3)) 313);rw[a7w]at this;exact this
 ·show(Array.mk (Tryz.zeroCells313.toList.set 256 _))[256]? = _;rw[List.getElem?_toArray,List.getElem?_set_self (by rw[hz];simp)]
 ·refine World.ownsRow.alloc ?_ _;exact⟨rfl,.inr ⟨w.heap.size,3,Array.replicate 3 (.string ⟨#[]⟩),rfl,Nat.le_refl _,heap_alloc_new w _,by omega,by decide,by simp,by simp[d5n]⟩⟩
set_option maxHeartbeats 1600000 in
theorem c6N(R g c:Nat)(w:World)(hR:w.cell? ⟨R,4,none⟩=some (.slice (some ⟨g,0,none⟩) 6 c))(hrow:Row w (some ⟨g,0,none⟩) a49):
  Calls Tryz.prog 205 #[.pointer (some ⟨R,0,none⟩)] w fun e w'=>e = .returned (.iface 314 (.pointer (some ⟨w.heap.size+1,0,none⟩)))/\∃cur v,RpB w (w.heap.size+1) w' 3 cur v:=by
 obtain⟨ad2,hadd,hc⟩:=hrow (by decide);obtain rfl:⟨g,0,none⟩=ad2:=Option.some.inj hadd;have c0:w.cell? ⟨g,0,none⟩=some (.string ⟨#[92]⟩):=hc 0 _ rfl;have c1:w.cell? ⟨g,1,none⟩=some (.string ⟨#[92,92]⟩):=hc 1 _ rfl;have c2:w.cell? ⟨g,2,none⟩=some (.string ⟨#[34]⟩):=hc 2 _ rfl;have c3:w.cell? ⟨g,3,none⟩=some (.string ⟨#[92,34]⟩):=hc 3 _ rfl;have c4:w.cell? ⟨g,4,none⟩=some (.string ⟨#[10]⟩):=hc 4 _ rfl;have c5:w.cell? ⟨g,5,none⟩=some (.string ⟨#[92,110]⟩):=hc 5 _ rfl;clear hc hrow hadd;have hmk:∀w,(Instr.makeSlice 65 (.int .i64 0) (.int .i64 3)).run Tryz.prog w = .ok (.slice (some ⟨w.heap.size,0,none⟩) 0 3) (w.alloc (.cells (Array.replicate 3 (.string ⟨#[]⟩)) 9)):=fun _=>by kernel_rfl
 have heq:∀w,(binOp .eql 84 (.slice none 0 0) (.slice none 0 0)).run Tryz.prog w = .ok (.bool true) w:=fun _=>by kernel_rfl
 have hst:=d5t w (.cells (Array.replicate 3 (.string ⟨#[]⟩)) 9) (.slice (some ⟨w.heap.size,0,none⟩) 0 3) rfl
 go_enter Tryz.func205,Tryz.ntmps205
 go_wp2_with fail
 go_loop [4,5] (fun a i=>∃k:Nat,k<=3/\i = .int .i64 ((2*k:Nat):Int)/\a = .bool (decide (k=0))) (fun _ i=>6-(intOf i).toNat)
 case atStart=>exact⟨0,by omega,rfl,rfl⟩
 case round=>
  obtain⟨k,hk,rfl,rfl⟩:=hrel;have hk4:k=0\/k=1\/k=2\/k=3:=by omega
  rcases hk4 with rfl|rfl|rfl|rfl
  ·go_wp2_with fail
   go_round
   case rel=>exact⟨1,by omega,rfl,rfl⟩
   case measure=>simp[intOf]
  ·go_wp2_with fail
   go_round
   case rel=>exact⟨2,by omega,rfl,rfl⟩
   case measure=>simp[intOf]
  ·go_wp2_with fail
   go_round
   case rel=>exact⟨3,by omega,rfl,rfl⟩
   case measure=>simp[intOf]
  ·go_wp2_with fail
   go_loopw [12] (fun i wr=>∃(k:Nat) (cur:Array Value) (v:Value),k<=3/\i = .int .i64 (4-2*(k:Int))/\RpB w (w.heap.size+1) wr k cur v) (fun i _=>(match i with | .int _ n=>(n+2).toNat|_=>0))
   case atStart=>exact⟨0,_,_,by omega,rfl,c6T w⟩
   case round=>
    obtain⟨k,cur,v,hk2,rfl,hb⟩:=hrel;have hk4:k=0\/k=1\/k=2\/k=3:=by omega
    rcases hk4 with rfl|rfl|rfl|rfl
    ·have k1:wr.cell? ⟨w.heap.size+1,256,none⟩=some v:=(cell_of_row _ _ 256 _ _ (0,0) hb.blk).trans hb.at256;obtain⟨u,hu1,hu2⟩:=hb.all 10 (by omega);have k2:wr.cell? ⟨w.heap.size+1,10,none⟩=some u:=(cell_of_row _ _ 10 _ _ (0,0) hb.blk).trans hu1;obtain rfl:u = .slice none 0 0:=by simpa [RpEnt]using hu2
     have c4':=hb.ext.cell c4;have c5':=hb.ext.cell c5;have hcv:∀w:World,(convert 84 9 (.slice (some ⟨w.heap.size,0,none⟩) 1 1)).run Tryz.prog (w.alloc (.cells #[.int .u8 10] 5)) = .ok (.string ⟨#[10]⟩) (w.alloc (.cells #[.int .u8 10] 5)):=fun w=>c6O w 10
     have hsb:=c6S ⟨#[92,110]⟩
     go_wp2_with (at_builtin;refine b6R (w0:=w) rfl a7E rfl (hb.own.alloc _) (hb.ext.alloc _) rfl (cs:=#[.string ⟨#[10]⟩]) (by rw[a7w];rfl) rfl rfl (by omega) ?_;intro v' w2 hown hE2 hg hnn hor;obtain⟨A2,cc2,rfl⟩:=a5Q hown (by omega);obtain⟨hB2,hk5⟩:=a9E hb _ hg;have kc:=(cell_of_row _ _ 256 _ _ _ hB2).trans hb.at256;have kf:=E4 hB2 256;have kc2:=(cell_of_row _ _ 10 _ _ _ hB2).trans hu1;have kf2:=E4 hB2 10;have hlt:=a1h hB2)
     go_roundw
     case rel=>exact⟨1,_,_,by omega,rfl,a9F hb hE2 hB2 hk5 hown _ _ [92,110] _ (b6p 92 110 _) (by omega) (fun w' u h=>by simpa [RpEnt]using h) (fun w' j u hj h=>by simp only[RpEnt]at h ⊢;simpa [hj]using h)⟩
     case measure=>simp
    ·have k1:wr.cell? ⟨w.heap.size+1,256,none⟩=some v:=(cell_of_row _ _ 256 _ _ (0,0) hb.blk).trans hb.at256;obtain⟨u,hu1,hu2⟩:=hb.all 34 (by omega);have k2:wr.cell? ⟨w.heap.size+1,34,none⟩=some u:=(cell_of_row _ _ 34 _ _ (0,0) hb.blk).trans hu1;obtain rfl:u = .slice none 0 0:=by simpa [RpEnt]using hu2
     have c2':=hb.ext.cell c2;have c3':=hb.ext.cell c3;have hcv:∀w:World,(convert 84 9 (.slice (some ⟨w.heap.size,0,none⟩) 1 1)).run Tryz.prog (w.alloc (.cells #[.int .u8 34] 5)) = .ok (.string ⟨#[34]⟩) (w.alloc (.cells #[.int .u8 34] 5)):=fun w=>c6O w 34
     have hsb:=c6S ⟨#[92,34]⟩
     go_wp2_with (at_builtin;refine b6R (w0:=w) rfl a7E rfl (hb.own.alloc _) (hb.ext.alloc _) rfl (cs:=#[.string ⟨#[34]⟩]) (by rw[a7w];rfl) rfl rfl (by omega) ?_;intro v' w2 hown hE2 hg hnn hor;obtain⟨A2,cc2,rfl⟩:=a5Q hown (by omega);obtain⟨hB2,hk5⟩:=a9E hb _ hg;have kc:=(cell_of_row _ _ 256 _ _ _ hB2).trans hb.at256;have kf:=E4 hB2 256;have kc2:=(cell_of_row _ _ 34 _ _ _ hB2).trans hu1;have kf2:=E4 hB2 34;have hlt:=a1h hB2)
     go_roundw
     case rel=>exact⟨2,_,_,by omega,rfl,a9F hb hE2 hB2 hk5 hown _ _ [92,34] _ (b6p 92 34 _) (by omega) (fun w' u h=>by simpa [RpEnt]using h) (fun w' j u hj h=>by simp only[RpEnt]at h ⊢;simpa [hj]using h)⟩
     case measure=>simp
    ·have k1:wr.cell? ⟨w.heap.size+1,256,none⟩=some v:=(cell_of_row _ _ 256 _ _ (0,0) hb.blk).trans hb.at256;obtain⟨u,hu1,hu2⟩:=hb.all 92 (by omega);have k2:wr.cell? ⟨w.heap.size+1,92,none⟩=some u:=(cell_of_row _ _ 92 _ _ (0,0) hb.blk).trans hu1;obtain rfl:u = .slice none 0 0:=by simpa [RpEnt]using hu2
     have c0':=hb.ext.cell c0;have c1':=hb.ext.cell c1;have hcv:∀w:World,(convert 84 9 (.slice (some ⟨w.heap.size,0,none⟩) 1 1)).run Tryz.prog (w.alloc (.cells #[.int .u8 92] 5)) = .ok (.string ⟨#[92]⟩) (w.alloc (.cells #[.int .u8 92] 5)):=fun w=>c6O w 92
     have hsb:=c6S ⟨#[92,92]⟩
     go_wp2_with (at_builtin;refine b6R (w0:=w) rfl a7E rfl (hb.own.alloc _) (hb.ext.alloc _) rfl (cs:=#[.string ⟨#[92]⟩]) (by rw[a7w];rfl) rfl rfl (by omega) ?_;intro v' w2 hown hE2 hg hnn hor;obtain⟨A2,cc2,rfl⟩:=a5Q hown (by omega);obtain⟨hB2,hk5⟩:=a9E hb _ hg;have kc:=(cell_of_row _ _ 256 _ _ _ hB2).trans hb.at256;have kf:=E4 hB2 256;have kc2:=(cell_of_row _ _ 92 _ _ _ hB2).trans hu1;have kf2:=E4 hB2 92;have hlt:=a1h hB2)
     go_roundw
     case rel=>exact⟨3,_,_,by omega,rfl,a9F hb hE2 hB2 hk5 hown _ _ [92,92] _ (b6p 92 92 _) (by omega) (fun w' u h=>by simpa [RpEnt]using h) (fun w' j u hj h=>by simp only[RpEnt]at h ⊢;simpa [hj]using h)⟩
     case measure=>simp
    ·go_wp2_with fail
     go_ret
     exact⟨rfl,_,_,hb⟩
end
section
def rpI(B:Nat):Value:= .iface 314 (.pointer (some ⟨B,0,none⟩))
def RpT(w0 w:World)(B:Nat):Prop:=∃cur v,RpB w0 B w 3 cur v
theorem RpEnt.keep{w0 w w':World}{k j:Nat}{u:Value}(h:RpEnt w0 w k j u)(hk:KeepT 5 w w'):RpEnt w0 w' k j u:=by
 unfold RpEnt at h ⊢;split
 ·rw[if_pos (by assumption)]at h;exact h.keep hk
 rw[if_neg (by assumption)]at h;split
 ·rw[if_pos (by assumption)]at h;exact h.keep hk
 rw[if_neg (by assumption)]at h;split
 ·rw[if_pos (by assumption)]at h;exact h.keep hk
 rw[if_neg (by assumption)]at h;exact h
theorem RpB.keep{w0 w w':World}{B k:Nat}{cur:Array Value}{v:Value}(h:RpB w0 B w k cur v)(hE:Ext w0 w')(h1:KeepT 5 w w')(h2:KeepT 9 w w')(h3:KeepT 313 w w'):RpB w0 B w' k cur v:=
 ⟨hE,h.base,h3 _ _ _ h.blk,h.size,h.at256,h2.own h.own,fun j hj=>let ⟨u,a,b⟩:=h.all j hj;⟨u,a,b.keep h1⟩⟩
set_option maxHeartbeats 1600000 in
theorem d2h(R g c:Nat)(x0 x1 x2:Value)(w:World)(hR:w.heap[R]? = some (.cells #[x0,x1,x2,.nilIface,.slice (some ⟨g,0,none⟩) 6 c] 226 (0,0)))(hrow:Row w (some ⟨g,0,none⟩) a49):
  Calls Tryz.prog 161 #[.pointer (some ⟨R,0,none⟩)] w fun e w'=>e = .returned (.tuple #[])/\
   ∃wb cur v,RpB w (w.heap.size+1) wb 3 cur v/\w'=(wb.setCell ⟨R,3,none⟩ (rpI (w.heap.size+1))).setCell ⟨R,4,none⟩ (.slice none 0 0):=by
 have h4:w.cell? ⟨R,4,none⟩=some (.slice (some ⟨g,0,none⟩) 6 c):=cell_of_row _ _ 4 _ _ _ hR;have h3:w.cell? ⟨R,3,none⟩=some .nilIface:=cell_of_row _ _ 3 _ _ _ hR;have f3:=E4 hR 3;have f4:=E4 hR 4;have hlt:=a1h hR
 go_enter Tryz.func161,Tryz.ntmps161
 go_wp2_with (go_at_call 205;refine(c6N R g c _ h4 hrow).mono ?_;rintro e wb ⟨rfl,cur,v,hb⟩;have k3:=hb.ext.cell h3;have k4:=hb.ext.cell h4;have hRb:=(hb.ext.block R hlt).trans hR;have g3:=E4 hRb 3;have g4:=E4 hRb 4)
 go_end0
 exact⟨rfl,wb,cur,v,hb,rfl⟩
theorem RpBy.weak{w0 w1 wr:World}{u:Value}{l:List UInt8}(h:RpBy w1 wr u l)(hs:w0.heap.size<=w1.heap.size):RpBy w0 wr u l:=by
 obtain⟨g,cap,cs,fz,h1,h2,h3,h4⟩:=h;exact⟨g,cap,cs,fz,h1,by omega,h3,h4⟩
theorem RpB.weak{w0 w1 wr:World}{B:Nat}{cur:Array Value}{v:Value}(h:RpB w1 B wr 3 cur v)(hs:w0.heap.size<=w1.heap.size)(hE:Ext w0 wr):RpB w0 B wr 3 cur v:=by
 refine⟨hE,by have:=h.base;omega,h.blk,h.size,h.at256,?_,fun j hj=>?_⟩
 ·obtain⟨h1,h2⟩:=h.own;refine⟨h1,?_⟩;rcases h2 with h2|⟨g,cap,cur',hv,hg,r⟩
  ·exact .inl h2
  ·exact .inr ⟨g,cap,cur',hv,by omega,r⟩
 ·obtain⟨u,a,b⟩:=h.all j hj;refine⟨u,a,?_⟩;unfold RpEnt at b ⊢;split
  ·rw[if_pos (by assumption)]at b;exact b.weak hs
  rw[if_neg (by assumption)]at b;split
  ·rw[if_pos (by assumption)]at b;exact b.weak hs
  rw[if_neg (by assumption)]at b;split
  ·rw[if_pos (by assumption)]at b;exact b.weak hs
  rw[if_neg (by assumption)]at b;exact b
theorem c6P(w0:World)(R g c:Nat)(w:World)(hE:Ext w0 w)(hR0:w0.heap.size<=R)
  (hR:w.heap[R]? = some (.cells #[.int .u32 0,.int .i32 0,.int .u32 0,.nilIface,.slice (some ⟨g,0,none⟩) 6 c] 226 (0,0))) (hrow:Row w (some ⟨g,0,none⟩) a49) (hg:g≠R):
  Calls Tryz.prog 160 #[.pointer (some ⟨R,0,none⟩),.func (.func 161) #[.pointer (some ⟨R,0,none⟩)] #[]] w fun e w'=>e = .returned (.tuple #[])/\
   Ext w0 w'/\∃B,w'.cell? ⟨R,3,none⟩=some (rpI B)/\RpT w0 w' B:=by
 have h0:w.cell? ⟨R,0,none⟩=some (.int .u32 0):=cell_of_row _ _ 0 _ _ _ hR;have h1:w.cell? ⟨R,1,none⟩=some (.int .i32 0):=cell_of_row _ _ 1 _ _ _ hR;have hR1:=a0O hR 1 (.int .i32 1);have hrow1:Row (w.setCell ⟨R,1,none⟩ (.int .i32 1)) (some ⟨g,0,none⟩) a49:=fun hn=>by
  obtain⟨ad,e,hc⟩:=hrow hn;refine⟨ad,e,fun j u hu=>?_⟩;have hb:(ad.add j).block=g:=by rw[b5S];have:=Option.some.inj e;rw[<-this]
  rw[World.cell?_of_block (a:=ad.add j) (Below.heap_setCell w ⟨R,1,none⟩ _ _ (by rw[hb];exact hg))];exact hc j u hu
 have hE1:Ext w0 (w.setCell ⟨R,1,none⟩ (.int .i32 1)):=hE.set_ hR0 _;have hS:∀w',(∃wb cur v,RpB (w.setCell ⟨R,1,none⟩ (.int .i32 1)) ((w.setCell ⟨R,1,none⟩ (.int .i32 1)).heap.size+1) wb 3 cur v/\w'=(wb.setCell ⟨R,3,none⟩ (rpI ((w.setCell ⟨R,1,none⟩ (.int .i32 1)).heap.size+1))).setCell ⟨R,4,none⟩ (.slice none 0 0))->
   w'.heap[R]? = some (.cells #[.int .u32 0,.int .i32 1,.int .u32 0,rpI ((w.setCell ⟨R,1,none⟩ (.int .i32 1)).heap.size+1),.slice none 0 0] 226 (0,0)):=by
  rintro w' ⟨wb,cur,v,hb,rfl⟩;have hRb:=(hb.ext.block R (a1h hR1)).trans hR1;exact a0O (a0O hRb 3 _) 4 _
 refine(d7l R 0 #[.pointer (some ⟨R,0,none⟩)] _ w h0 h1 (E4 hR 0) (E4 hR 1) (d2h R g c _ _ _ _ hR1 hrow1) (fun w' h=>?_)).mono ?_
 ·have hk:=hS w' h;exact⟨cell_of_row _ _ 0 _ _ _ hk,cell_of_row _ _ 1 _ _ _ hk,E4 hk 0,E4 hk 1⟩
 ·rintro e w' ⟨rfl,w2,h,rfl⟩;have hk:=hS w2 h;obtain⟨wb,cur,v,hb,rfl⟩:=h;have hk0:=a0O (w:=(((wb.setCell ⟨R,3,none⟩ (rpI ((w.setCell ⟨R,1,none⟩ (.int .i32 1)).heap.size+1))).setCell ⟨R,4,none⟩ (.slice none 0 0))).drew) hk 0 (.int .u32 1);have hk1:=a0O hk0 1 (.int .i32 0);have hEb:Ext w0 wb:=hE1.trans hb.ext;have hRb:=(hb.ext.block R (a1h hR1)).trans hR1;have hEw:Ext w0 (((((wb.setCell ⟨R,3,none⟩ (rpI ((w.setCell ⟨R,1,none⟩ (.int .i32 1)).heap.size+1))).setCell ⟨R,4,none⟩ (.slice none 0 0))).drew.setCell ⟨R,0,none⟩ (.int .u32 1)).setCell ⟨R,1,none⟩ (.int .i32 0)):=
   ((((hEb.set_ hR0 _).set_ hR0 _).drew).set_ hR0 _).set_ hR0 _
  refine⟨rfl,hEw,_,cell_of_row _ _ 3 _ _ _ hk1,cur,v,?_⟩;have kp:=fun T (hT:226≠T)=>((((KeepT.set (T:=T) hRb hT 3 (rpI ((w.setCell ⟨R,1,none⟩ (.int .i32 1)).heap.size+1))).trans (KeepT.set (a0O hRb 3 _) hT 4 (.slice none 0 0))).trans (KeepT.drew _)).trans (KeepT.set (w:=(((wb.setCell ⟨R,3,none⟩ (rpI ((w.setCell ⟨R,1,none⟩ (.int .i32 1)).heap.size+1))).setCell ⟨R,4,none⟩ (.slice none 0 0))).drew) hk hT 0 (.int .u32 1))).trans (KeepT.set hk0 hT 1 (.int .i32 0))
  exact(hb.weak (by have:=hE1.size;exact this) hEb).keep hEw (kp _ (by decide)) (kp _ (by decide)) (kp _ (by decide))
end
section
def rpF(b:UInt8):List UInt8:=if b=10 then [92,110]else if b=34 then [92,34]else if b=92 then [92,92]else [b]
def rpE(l:List UInt8):List UInt8:=l.flatMap rpF
def a6x(b:UInt8):Bool:=b==10||b==34||b==92
def rpN(l:List UInt8):Nat:=l.countP a6x
attribute [local go_sem] c6Q b6q b6r b6s
theorem a7P(b:UInt8):(rpF b).length=1+(if a6x b=true then 1 else 0):=by
 unfold rpF a6x;by_cases h1:b=10
 ·simp[h1]
 by_cases h2:b=34
 ·simp[h2]
 by_cases h3:b=92
 ·simp[h3]
 simp[h1,h2,h3]
theorem a7O:∀l:List UInt8,(rpE l).length=l.length+rpN l
 |[]=>rfl
 |b :: l=>by
  have ih:=a7O l;unfold rpE rpN at ih ⊢;rw[List.flatMap_cons,List.length_append,a7P,List.countP_cons,ih,List.length_cons];omega
theorem d2c{b:UInt8}(h:¬a6x b=true):rpF b=[b]:=by
 unfold a6x at h;simp only[Bool.or_eq_true,beq_iff_eq,not_or]at h;simp[rpF,h.1.1,h.1.2,h.2]
theorem c0j(l:List UInt8):rpN l<=l.length:=List.countP_le_length
theorem b8e(s:ByteArray){j:Nat}(h:j<s.size):s.data.toList[j]? = some s[j]/\rpN (s.data.toList.take (j+1))=rpN (s.data.toList.take j)+(if a6x s[j]=true then 1 else 0):=by
 have e:s.data.toList[j]? = some s[j]:=by
  rw[List.getElem?_eq_some_iff];exact⟨h,by simp;rfl⟩
 refine⟨e,?_⟩;rw[List.take_add_one,e];unfold rpN;rw[List.countP_append];simp[List.countP_cons]
theorem b8d:∀l:List UInt8,rpN l=0->rpE l=l
 |[],_=>rfl
 |b :: l,h=>by
  unfold rpN at h;rw[List.countP_cons]at h;have hb:a6x b=false:=by
   cases hb:a6x b with
   |false=>rfl
   |true=>rw[if_pos hb]at h;omega
  have ih:=b8d l (by unfold rpN;omega);unfold rpE at ih ⊢;rw[List.flatMap_cons,ih];unfold a6x at hb;simp only[Bool.or_eq_false_iff,beq_eq_false_iff_ne]at hb;simp[rpF,hb.1.1,hb.1.2,hb.2]
theorem c0p{w0 w:World}{B:Nat}{cur:Array Value}{v:Value}(hb:RpB w0 B w 3 cur v)(b:UInt8):∃u,w.cell? ⟨B,b.toNat,none⟩=some u/\(if a6x b=true then RpBy w0 w u (rpF b)else u = .slice none 0 0):=by
 obtain⟨u,hu,he⟩:=hb.all b.toNat (UInt8.toNat_lt b);refine⟨u,(cell_of_row _ _ _ _ _ (0,0) hb.blk).trans hu,?_⟩;have t:∀c:UInt8,b.toNat=c.toNat↔b=c:=fun c=>⟨UInt8.toNat_inj.1,fun h=>by rw[h]⟩
 have t10:=t 10;have t34:=t 34;have t92:=t 92;simp only[b6q,b6r,b6s]at t10 t34 t92;unfold RpEnt at he;simp only[t10,t34,t92]at he;unfold a6x rpF;by_cases h1:b=10
 ·subst h1;simpa using he
 by_cases h2:b=34
 ·subst h2;simpa using he
 by_cases h3:b=92
 ·subst h3;simpa using he
 simpa [h1,h2,h3]using he
def a0d(l:List UInt8)(k:Nat):Nat:=(if 1<=k then Lib.countByte l 10 else 0)+(if 2<=k then Lib.countByte l 34 else 0)+(if 3<=k then Lib.countByte l 92 else 0)
theorem a9C:∀l:List UInt8,a0d l 3=rpN l
 |[]=>rfl
 |b :: l=>by
  have ih:=a9C l;unfold a0d rpN Lib.countByte at ih ⊢;rw[List.countP_cons,<-ih];simp only[List.count_cons,a6x];by_cases h1:b=10
  ·subst h1;simp;omega
  by_cases h2:b=34
  ·subst h2;simp;omega
  by_cases h3:b=92
  ·subst h3;simp;omega
  simp[h1,h2,h3]
theorem b18(l:List UInt8)(c:UInt8):Lib.countByte l c<=l.length:=List.count_le_length
theorem b7S{w:World}{base:Nat}{e:TypeId}{size:Nat}{v:Value}{n:Nat}{xs:List Value}(h:w.ownsRow base e size v n xs)(hn:n≠0):∃g c,v = .slice (some ⟨g,0,none⟩) n c:=by
 rcases h.2 with⟨rfl,rfl⟩|⟨g',cap,cur,rfl,_⟩
 ·exact absurd rfl hn
 ·exact⟨_,_,rfl⟩
theorem c2A{w0 w:World}{B:Nat}{cur:Array Value}{v:Value}(hb:RpB w0 B w 3 cur v)(b:UInt8)(h:a6x b=true):∃A c,w.cell? ⟨B,b.toNat,none⟩=some (.slice (some A) 2 c):=by
 obtain⟨u,hu,he⟩:=c0p hb b;rw[if_pos h]at he;obtain⟨g,cap,cs,fz,rfl,-,-,-⟩:=he;have hl:=a7P b;rw[h,if_pos rfl]at hl;rw[hl]at hu;exact⟨_,_,hu⟩
theorem c4M(L:List Value)(m:Nat)(x:Value)(h:m<L.length):(L.set m x).take (m+1)=L.take m ++ [x]:=by
 rw[List.take_add_one,List.getElem?_set_self h,List.take_set_of_le (Nat.le_refl _)];rfl
theorem b8u(L:List Value)(m:Nat)(cs:List Value)(h:m+cs.length<=L.length):(splice L m cs).take (m+cs.length)=L.take m++cs:=by
 unfold splice;have e:(L.take m++cs).length=m+cs.length:=by rw[List.length_append,List.length_take];omega
 rw[<-List.append_assoc,<-e,List.take_left'];rfl
def b16(b:UInt8):Value:= .int .u8 (b.toNat:Int)
structure RpC(w:World)(s:ByteArray)(j:Nat)(wr:World)(L:List Value):Prop where
 ext:Ext w wr
 blk:wr.heap[w.heap.size]? = some (.cells L.toArray 5 (0,0))
 len:L.length=s.size+rpN s.data.toList
 pre:L.take (rpE (s.data.toList.take j)).length=(rpE (s.data.toList.take j)).map b16
theorem d2g(w:World)(n:Nat)(h:n<=1000000000):∃Z:List Value,Z.length=n/\(Instr.makeSlice 84 (.int .i64 (n:Int)) (.int .i64 (n:Int))).run Tryz.prog w = .ok (.slice (some ⟨w.heap.size,0,none⟩) n n) (w.alloc (.cells Z.toArray 5)):=by
 have this:=run_make (P:=Tryz.prog) w 84 5 Tryz.t5 (.int .u8 0) Tryz.underlying84 (by kernel_rfl) (by kernel_rfl) .i64 .i64 n n (by omega) (Int.le_refl _) (by show((1:Nat):Int)*n<=_;omega) (by omega);refine⟨(madeCells (Value.int .u8 0).cells n).toList,by simp[size_madeCells],?_⟩;rw[this];rw[Int.toNat_natCast];show Result.ok _ (w.alloc (.cells (madeCells _ (n*1)) _))=_;rw[Nat.mul_one]
theorem c6M(s:ByteArray){j:Nat}(h:j<s.size):rpE (s.data.toList.take (j+1))=rpE (s.data.toList.take j)++rpF s[j]:=by
 rw[List.take_add_one,(b8e s h).1];unfold rpE;rw[List.flatMap_append];simp
theorem d2b(s:ByteArray)(j:Nat)(h:j<=s.size):(rpE (s.data.toList.take j)).length<=s.size+rpN s.data.toList:=by
 have h1:(rpE (s.data.toList.take j)).length<=(rpE s.data.toList).length:=by
  have e:rpE s.data.toList=rpE (s.data.toList.take j)++rpE (s.data.toList.drop j):=by
   unfold rpE;rw[<-List.flatMap_append,List.take_append_drop]
  rw[e,List.length_append];omega
 rw[a7O s.data.toList]at h1;exact h1
theorem d5s{wr:World}{g:Nat}{cs:Array Value}{T:TypeId}{fz:Nat×Nat}{l:List UInt8}(h:wr.heap[g]? = some (.cells cs T fz))(hcs:∀(j:Nat) (b:UInt8),l[j]? = some b->cs[j]? = some (.int .u8 (b.toNat:Int))){i:Nat}{v:Value}(hi:(l.map b16)[i]? = some v):wr.cell? ((⟨g,0,none⟩:Addr).add i)=some v:=by
 have e:((⟨g,0,none⟩:Addr).add i)=⟨g,i,none⟩:=by unfold Addr.add;simp;intro h;exact h.symm
 rw[e,cell_of_row _ _ i _ _ _ h];rw[List.getElem?_map]at hi;cases hb:l[i]? with
 |none=>rw[hb]at hi;cases hi
 |some b=>rw[hb]at hi;rw[hcs i b hb];exact hi
theorem d5q(l:List UInt8):∀v∈l.map b16,v.oneCell'=true:=by
 intro v hv;obtain⟨b,-,rfl⟩:=List.mem_map.1 hv;rfl
set_option maxHeartbeats 1600000 in
theorem c0o(w0:World)(B:Nat)(w:World)(cur:Array Value)(v:Value)(hb:RpB w0 B w 3 cur v)(s:ByteArray)(hs:s.size<=100000000):
  Calls Tryz.prog 368 #[.pointer (some ⟨B,0,none⟩),.string s] w fun e w'=>e = .returned (.string ⟨(rpE s.data.toList).toArray⟩)/\Ext w w':=by
 have k256:w.cell? ⟨B,256,none⟩=some v:=(cell_of_row _ _ 256 _ _ (0,0) hb.blk).trans hb.at256;obtain⟨G,c,rfl⟩:=b7S hb.own (by omega);have o0:w.cell? ⟨G,0,none⟩=some (.string ⟨#[10]⟩):=hb.own.cellAt 0 (by omega);have o1:w.cell? ⟨G,1,none⟩=some (.string ⟨#[34]⟩):=hb.own.cellAt 1 (by omega);have o2:w.cell? ⟨G,2,none⟩=some (.string ⟨#[92]⟩):=hb.own.cellAt 2 (by omega);obtain⟨A10,c10,t10⟩:=c2A hb 10 rfl;obtain⟨A34,c34,t34⟩:=c2A hb 34 rfl;obtain⟨A92,c92,t92⟩:=c2A hb 92 rfl;rw[b6q]at t10;rw[b6r]at t34;rw[b6s]at t92;have l10:=b18 s.data.toList 10;have l34:=b18 s.data.toList 34;have l92:=b18 s.data.toList 92;have hsz:s.data.toList.length=s.size:=rfl;have hne:∀(A:Addr) (c:Nat) (w:World),(binOp .neq 84 (.slice (some A) 2 c) (.slice none 0 0)).run Tryz.prog w = .ok (.bool true) w:=fun _ _ _=>by kernel_rfl
 have hnn:∀(w:World),(binOp .neq 84 (.slice none 0 0) (.slice none 0 0)).run Tryz.prog w = .ok (.bool false) w:=fun _=>by kernel_rfl
 go_enter Tryz.func368,Tryz.ntmps368
 go_upto_if 26 with fail
 go_cut [5,6] (fun n a wc=>(∃q,wc=w.drewN q)/\n = .int .i64 ((s.size+rpN s.data.toList:Nat):Int)/\a = .bool (decide (0<rpN s.data.toList)))
 case first=>
  go_wp2_with fail
  ·rename_i h24;rw[decide_eq_true h24]
   go_loopw [5,6,32] (fun n a i wc=>(∃q,wc=w.drewN q)/\∃k:Nat,k<=3/\i = .int .i64 (k:Int)/\n = .int .i64 ((s.size+a0d s.data.toList k:Nat):Int)/\a = .bool (decide (0<a0d s.data.toList k))) (fun _ _ i _=>3-(intOf i).toNat)
   case atStart=>exact⟨⟨0,rfl⟩,0,by omega,rfl,by simp[a0d],by simp[a0d]⟩
   case round=>
    obtain⟨⟨q,rfl⟩,k,hk,rfl,rfl,rfl⟩:=hrel;have hk4:k=0\/k=1\/k=2\/k=3:=by omega
    rcases hk4 with rfl|rfl|rfl|rfl
    ·go_wp2_with (go_at_call 207;refine(Tryz.strings_Count_one s 10 _).mono ?_;rintro e w' ⟨rfl,rfl⟩)
     ·have hcp:0<Lib.countByte s.data.toList 10:=by have hc0:=‹(((Lib.countByte s.data.toList 10:Nat):Int) !=0)=true›;simp at hc0;omega
      go_quiet (fail)
      go_wp2_with fail
      go_roundw
      case rel=>
       refine⟨⟨_,rfl⟩,1,by omega,rfl,?_,?_⟩
       ·rw[IntWalk.wrap64_in _ (by simp[a0d];omega)];simp[a0d]<;>omega
       ·rw[decide_eq_true (by unfold a0d;simp;omega)]
      case measure=>simp[intOf]
     ·have hcp:Lib.countByte s.data.toList 10=0:=by have hc0:=‹(((Lib.countByte s.data.toList 10:Nat):Int) !=0)=false›;simp at hc0;omega
      go_roundw
      case rel=>
       refine⟨⟨_,rfl⟩,1,by omega,rfl,?_,?_⟩
       ·simp[a0d,hcp]
       ·simp[a0d,hcp]
      case measure=>simp[intOf]
    ·go_wp2_with (go_at_call 207;refine(Tryz.strings_Count_one s 34 _).mono ?_;rintro e w' ⟨rfl,rfl⟩)
     ·have hcp:0<Lib.countByte s.data.toList 34:=by have hc0:=‹(((Lib.countByte s.data.toList 34:Nat):Int) !=0)=true›;simp at hc0;omega
      go_quiet (fail)
      go_wp2_with fail
      go_roundw
      case rel=>
       refine⟨⟨_,rfl⟩,2,by omega,rfl,?_,?_⟩
       ·rw[IntWalk.wrap64_in _ (by simp[a0d];omega)];simp[a0d]<;>omega
       ·rw[decide_eq_true (by unfold a0d;simp;omega)]
      case measure=>simp[intOf]
     ·have hcp:Lib.countByte s.data.toList 34=0:=by have hc0:=‹(((Lib.countByte s.data.toList 34:Nat):Int) !=0)=false›;simp at hc0;omega
      go_roundw
      case rel=>
       refine⟨⟨_,rfl⟩,2,by omega,rfl,?_,?_⟩
       ·simp[a0d,hcp]
       ·simp[a0d,hcp]
      case measure=>simp[intOf]
    ·go_wp2_with (go_at_call 207;refine(Tryz.strings_Count_one s 92 _).mono ?_;rintro e w' ⟨rfl,rfl⟩)
     ·have hcp:0<Lib.countByte s.data.toList 92:=by have hc0:=‹(((Lib.countByte s.data.toList 92:Nat):Int) !=0)=true›;simp at hc0;omega
      go_quiet (fail)
      go_wp2_with fail
      go_roundw
      case rel=>
       refine⟨⟨_,rfl⟩,3,by omega,rfl,?_,?_⟩
       ·rw[IntWalk.wrap64_in _ (by simp[a0d];omega)];simp[a0d]<;>omega
       ·rw[decide_eq_true (by unfold a0d;simp;omega)]
      case measure=>simp[intOf]
     ·have hcp:Lib.countByte s.data.toList 92=0:=by have hc0:=‹(((Lib.countByte s.data.toList 92:Nat):Int) !=0)=false›;simp at hc0;omega
      go_roundw
      case rel=>
       refine⟨⟨_,rfl⟩,3,by omega,rfl,?_,?_⟩
       ·simp[a0d,hcp]
       ·simp[a0d,hcp]
      case measure=>simp[intOf]
    ·go_wp2_with fail
     go_meet
     case rel=>exact⟨⟨q,rfl⟩,by rw[<-a9C],by rw[<-a9C]⟩
  ·rename_i h24;rw[decide_eq_false (show ¬(24:Int)<=(s.size:Int) by omega)]
   go_loopw [5,6,10] (fun n a i wc=>(∃q,wc=w.drewN q)/\∃j:Nat,j<=s.size/\i = .int .i64 (j:Int)/\n = .int .i64 ((s.size+rpN (s.data.toList.take j):Nat):Int)/\a = .bool (decide (0<rpN (s.data.toList.take j)))) (fun _ _ i _=>s.size-(intOf i).toNat)
   case atStart=>exact⟨⟨0,rfl⟩,0,by omega,rfl,by simp[rpN],by simp[rpN]⟩
   case round=>
    obtain⟨⟨q,rfl⟩,j,hj,rfl,rfl,rfl⟩:=hrel;by_cases hjs:j<s.size
    ·have hjI:(j:Int)<(s.size:Int):=by omega
     have hle:=c0j (s.data.toList.take j);have hlt:=List.length_take_le j s.data.toList;obtain⟨u,hu,he⟩:=c0p hb s[j];have h256:((s[j].toNat:Nat):Int)<256:=by have:=UInt8.toNat_lt s[j];omega
     have h0:(0:Int)<=((s[j].toNat:Nat):Int):=by omega
     obtain⟨hsc,hs1⟩:=b8e s hjs;by_cases hsp:a6x s[j]=true
     ·obtain⟨A1,c1,hu1⟩:=c2A hb s[j] hsp;obtain rfl:u=_:=Option.some.inj (hu.symm.trans hu1);clear hu he;have hne1:=hne A1 c1
      go_wp2_with fail
      go_roundw
      case rel=>
       refine⟨⟨q,rfl⟩,j+1,by omega,rfl,?_,?_⟩
       ·rw[hs1,if_pos hsp];rfl
       ·rw[hs1,if_pos hsp,decide_eq_true (by omega)]
      case measure=>simp[intOf];omega
     ·rw[if_neg hsp]at he;subst he
      go_wp2_with fail
      go_roundw
      case rel=>exact⟨⟨q,rfl⟩,j+1,by omega,rfl,by rw[hs1,if_neg hsp];rfl,by rw[hs1,if_neg hsp];rfl⟩
      case measure=>simp[intOf];omega
    ·have hjI:¬(j:Int)<(s.size:Int):=by omega
     go_wp2_with fail
     go_meet
     case rel=>exact⟨⟨q,rfl⟩,by rw[List.take_of_length_le (by rw[hsz];omega)];rfl,by rw[List.take_of_length_le (by rw[hsz];omega)]⟩
 case rest=>
  obtain⟨⟨q,rfl⟩,rfl,rfl⟩:=hcut;by_cases hN:0<rpN s.data.toList
  ·rw[decide_eq_true hN];have hNle:=c0j s.data.toList;obtain⟨Z,hZ,hmk⟩:=d2g (w.drewN q) (s.size+rpN s.data.toList) (by omega);have hmk2:=hmk;rw[Int.natCast_add]at hmk2
   go_wp2_with fail
   go_loopw [13,14] (fun m i wr=>∃(j:Nat) (L:List Value),j<=s.size/\i = .int .i64 (j:Int)/\m = .int .i64 (((rpE (s.data.toList.take j)).length:Nat):Int)/\RpC w s j wr L) (fun _ i _=>s.size-(intOf i).toNat)
   case atStart=>exact⟨0,Z,by omega,rfl,rfl,((Ext.refl w).drewN q).alloc _,heap_alloc_new _ _,hZ,rfl⟩
   case round=>
    obtain⟨j,L,hj,rfl,rfl,hC⟩:=hrel;by_cases hjs:j<s.size
    ·have hjI:(j:Int)<(s.size:Int):=by omega
     have h256:((s[j].toNat:Nat):Int)<256:=by have:=UInt8.toNat_lt s[j];omega
     have h0:(0:Int)<=((s[j].toNat:Nat):Int):=by omega
     obtain⟨u,hu,he⟩:=c0p hb s[j];have hes:=c6M s hjs;have hfit:=d2b s (j+1) hjs;have hlF:=a7P s[j];obtain⟨m,hm⟩:∃m,(rpE (s.data.toList.take j)).length=m:=⟨_,rfl⟩;have hlE:(rpE (s.data.toList.take (j+1))).length=m+(rpF s[j]).length:=by rw[hes,List.length_append,hm]
     rw[hm];have hmI:(m:Int)<(s.size:Int)+(rpN s.data.toList:Int):=by omega
     have hmN:m<s.size+rpN s.data.toList:=by omega
     by_cases hsp:a6x s[j]=true
     ·rw[if_pos hsp]at he;rw[if_pos hsp]at hlF;obtain⟨g,c1,cs,fz,rfl,-,hgb,hcs⟩:=he;rw[hlF]at hu;have hu2:=hC.ext.cell hu;have hgw:=(hC.ext.block g (a1h hgb)).trans hgb;have hne1:=hne ⟨g,0,none⟩ c1;have hn1:(2:Nat)=1+1:=rfl;have hmZ:(m:Int)<=(s.size:Int)+(rpN s.data.toList:Int):=by omega
      have hcl:((rpF s[j]).map b16).length=2:=by rw[List.length_map,hlF]
      go_wp2_with fail
      go_region_law (refine step_copy_splice rfl (.tmp 105) (.tmp 111) 84 84 rfl 5 Tryz.underlying84 (by kernel_rfl) (some ⟨w.heap.size,m,none⟩) (some ⟨g,0,none⟩) (s.size+rpN s.data.toList-m) (s.size+rpN s.data.toList-m) 2 c1 (by simp[Act.eval,Act.put];omega) (by simp[Act.eval,Act.put]) w.heap.size m L 5 hC.blk ((rpF s[j]).map b16) (by rw[hcl];exact(Nat.min_eq_left (by omega)).symm) (fun _=>⟨rfl,_,rfl,fun i v hi=>d5s hgw hcs hi⟩) (by rw[hcl,hC.len];omega) (d5q _) w.heap.size w (hC.ext.drew) (Nat.le_refl _) ?_;intro w4 hg4 hb4)
      go_wp2_with fail
      have hfitL:m+((rpF s[j]).map b16).length<=L.length:=by rw[hcl,hC.len];omega
      refine⟨⟨j+1,hjs,by simp,by rw[hlE,hlF];simp,splice L m ((rpF s[j]).map b16),hb4,hg4.out,?_,?_⟩,?_⟩
      ·rw[length_splice _ _ _ hfitL];exact hC.len
      ·rw[hlE,<-List.length_map (f:=b16),b8u _ _ _ hfitL,hes,List.map_append,<-hC.pre,hm]
      ·simp[intOf];omega
     ·rw[if_neg hsp]at he;subst he;have hu2:=hC.ext.cell hu;rw[if_neg hsp]at hlF;have hmL:m<L.length:=by rw[hC.len];omega
      have kc:wr.cell? ⟨w.heap.size,m,none⟩=some L[m]:=(cell_of_row _ _ m _ _ _ hC.blk).trans (by simp[hmL]);have kf:=E4 hC.blk m
      go_wp2_with fail
      go_roundw
      case rel=>
       refine⟨j+1,L.set m (b16 s[j]),hjs,rfl,by rw[hlE,hlF];rfl,hC.ext.set_ (Nat.le_refl _) _,?_,by rw[List.length_set];exact hC.len,?_⟩
       ·exact(a0O hC.blk m _).trans (by simp[b16])
       ·rw[hlE,hlF,hes,c4M _ _ _ hmL,List.map_append,<-hC.pre,hm,d2c hsp];rfl
      case measure=>simp[intOf];omega
    ·have hjI:¬(j:Int)<(s.size:Int):=by omega
     have hall:s.data.toList.take j=s.data.toList:=List.take_of_length_le (by rw[hsz];omega);have hpre:=hC.pre;rw[hall,a7O,hsz,List.take_of_length_le (by rw[hC.len];omega)]at hpre;have hcv:=run_convert_bytes_back (P:=Tryz.prog) wr 84 9 5 ⟨w.heap.size,0,none⟩ (s.size+rpN s.data.toList) (rpE s.data.toList) Tryz.underlying84 Tryz.underlying5 Tryz.underlying9 (fun i hi=>by
      have e:((⟨w.heap.size,0,none⟩:Addr).add i)=⟨w.heap.size,i,none⟩:=by unfold Addr.add;simp;intro h;exact h.symm
      rw[e,cell_of_row _ _ i _ _ _ hC.blk,hpre];simp[b16,hi])
     rw[a7O,hsz]at hcv
     go_wp2_with fail
     go_ret
     exact⟨rfl,hC.ext⟩
  ·rw[decide_eq_false hN]
   go_wp2_with fail
   go_ret
   refine⟨?_,(Ext.refl w).drewN q⟩;show Ending.returned (.string s)=_;rw[b8d _ (by omega)]
end
section
set_option maxHeartbeats 1600000 in
theorem d5o(w0:World)(R g c:Nat)(w:World)(hE:Ext w0 w)(hR0:w0.heap.size<=R)
  (hR:w.heap[R]? = some (.cells #[.int .u32 0,.int .i32 0,.int .u32 0,.nilIface,.slice (some ⟨g,0,none⟩) 6 c] 226 (0,0))) (hrow:Row w (some ⟨g,0,none⟩) a49) (hg:g≠R) (s:ByteArray) (hs:s.size<=100000000):
  Calls Tryz.prog 113 #[.pointer (some ⟨R,0,none⟩),.string s] w fun e w'=>e = .returned (.string ⟨(rpE s.data.toList).toArray⟩)/\Ext w0 w':=by
 have hR3:w.cell? ⟨R,3,none⟩=some .nilIface:=cell_of_row _ _ 3 _ _ _ hR;have hmeth:∀(B:Nat) (w:World),(method 528 314 (.pointer (some ⟨B,0,none⟩)) "Replace").run Tryz.prog w = .ok (368,.pointer (some ⟨B,0,none⟩)) w:=fun _ _=>by kernel_rfl
 go_enter Tryz.func113,Tryz.ntmps113
 go_wp2_with (first
  |(go_at_call 160;refine(c6P w0 R g c w hE hR0 hR hrow hg).mono ?_;rintro e w1 ⟨rfl,hE1,B,k3,cur,v,hb⟩;unfold rpI at k3;clear hR3)
  |(go_at_call 368;refine(c0o w0 B w1 cur v hb s hs).mono ?_;rintro e w2 ⟨rfl,hE2⟩))
 go_ret
 exact⟨rfl,hE1.trans hE2⟩
theorem d5r(w:World):Row (w.alloc (.cells a49.toArray 9)) (some ⟨w.heap.size,0,none⟩) a49:=fun _=>⟨_,rfl,fun j u hu=>by
 have e:((⟨w.heap.size,0,none⟩:Addr).add j)=⟨w.heap.size,j,none⟩:=by unfold Addr.add;simp;intro h;exact h.symm
 rw[e,cell_of_row _ _ j _ _ _ (heap_alloc_new w _)];simpa using hu⟩
theorem d5f{w:World}{base:Nat}{T U:TypeId}{size:Nat}{g n c:Nat}{xs:List Value}(h:w.ownsRow base T size (.slice (some ⟨g,0,none⟩) n c) n xs){R:Nat}{cs:Array Value}{fz:Nat×Nat}(hR:w.heap[R]? = some (.cells cs U fz))(hT:U≠T):g≠R:=by
 rintro rfl;rcases h.2 with⟨h,_⟩|⟨g',cap,cur,h,_,hh,_⟩
 ·cases h
 ·obtain⟨rfl,_⟩:g=g'/\True:=⟨by injection h with h1;injection h1 with h1;injection h1,trivial⟩;rw[hR]at hh;exact hT (Obj.cells.inj (Option.some.inj hh)).2.1
def rpQ(l:List UInt8):List UInt8:=[34]++rpE l ++ [34]
set_option maxHeartbeats 1600000 in
theorem c4A(w:World)(s:ByteArray)(hs:s.size<=100000000):
  Calls Tryz.prog 60 #[.string s] w fun e w'=>e = .returned (.string ⟨(rpQ s.data.toList).toArray⟩)/\Ext w w':=by
 have hrow:=d5r w;have hl:(rpE s.data.toList).length<=200000000:=by
  have h1:=c0j s.data.toList;have h2:s.data.toList.length=s.size:=rfl;rw[a7O];omega
 have hl1:¬9223372036854775807<1+(rpE s.data.toList).length:=by omega
 have hl2:¬9223372036854775807<1+(rpE s.data.toList).length+1:=by omega
 go_enter Tryz.func60,Tryz.ntmps60
 go_wp2_with (first
  |(go_at_call 112;refine(d5p ⟨w.heap.size,0,none⟩ _ hrow).mono ?_;rintro e w1 ⟨R,v,rfl,hE1,hR0,hR,hown⟩;obtain⟨g,c,rfl⟩:=b7S hown (by decide);have hE0:Ext w w1:=((Ext.refl w).alloc _).trans hE1;have hR1:w.heap.size<=R:=by{rw[a7w]at hR0;omega};have hne:=d5f hown hR (by decide);have hrow1:Row w1 (some ⟨g,0,none⟩) a49:=fun _=>⟨_,rfl,hown.cells rfl⟩)
  |(go_at_call 113;refine(d5o w R g c w1 hE0 hR1 hR hrow1 hne s hs).mono ?_;rintro e w2 ⟨rfl,hE2⟩))
 go_ret
 refine⟨congrArg (fun x=>Ending.returned (.string x)) (ByteArray.ext ?_),hE2⟩;rw[ByteArray.data_append,ByteArray.data_append];simp[rpQ]
def J1(a:d7):Option d7:=if a.length<=100000000 then some (rpQ a)else none
theorem b9h:Sound Tryz.prog GW x9 60 ⟨[.v .str],[],[.v .str],[],d7,fun z=>((z,()),()),fun x _=>J1 x.1⟩:=by
 refine Sound.ofExt Tryz.call60 fun M w vs x z hG hM hA hz=>?_
 obtain⟨a,u⟩:=x
 match vs,hA with
 |[v1],hA=>
  obtain⟨h1,_⟩:=hA;rw[RepV.str h1];change J1 a=some z at hz;unfold J1 at hz;split at hz
  ·rename_i hs;have e:rpQ a=z:=Option.some.inj hz;subst e;refine(c4A w ⟨a.toArray⟩ hs).mono fun e w' hp=>?_
   obtain⟨rfl,hE⟩:=hp;exact⟨[_],rfl,hE,b8B _,trivial⟩
  ·cases hz
end
section
open Go Go.RowKit Go.Shelf
theorem c6F:Builder.Extra Tryz.prog Tryz.lays105_ren:={
 sizeBuilder:=by kernel_rfl
 liesBuilder:=by kernel_rfl
 t5:=Tryz.underlying5
 a5:=Tryz.isAgg5
 z5:=Tryz.sizeOf5
 v5:=Tryz.zeroValue5
 infoByte:=by kernel_rfl
 cellsByte:=by kernel_rfl
 sizeByte:=by kernel_rfl
 neB5:=by decide}
def strings_Repeat(a:d7)(n:Int):Option d7:=if 0<=n/\n<=1000000000/\a.length*n.toNat<=140737488355328 then some (Lib.repeatL a n.toNat)else none
theorem d01:Sound Tryz.prog GW x9 106 ⟨[.v .str,.v (.int .i64)],[],[.v .str],[],d7,fun z=>((z,()),()),fun x _=>strings_Repeat x.1 x.2.1⟩:=by
 refine Sound.ofExt Tryz.call106 fun M w vs x z hG hM hA hz=>?_
 obtain⟨a,n,u⟩:=x
 match vs,hA with
 |[v1,v2],hA=>
  obtain⟨h1,h2,_⟩:=hA;change strings_Repeat a n=some z at hz;unfold strings_Repeat at hz;split at hz
  ·rename_i hc;have e:Lib.repeatL a n.toNat=z:=Option.some.inj hz;subst e;obtain⟨k,rfl⟩:=Int.eq_ofNat_of_zero_le hc.1;rw[RepV.str h1,RepV.int h2];refine(Any.strings_Repeat Tryz.lays105 c6F ⟨a.toArray⟩ k w (by omega) (by show a.length*k<=_;exact hc.2.2)).mono fun e w' hp=>?_
   obtain⟨rfl,hE⟩:=hp;exact⟨[_],rfl,hE,b8B _,trivial⟩
  ·cases hz
end
section
open Go Go.RowKit Go.Shelf
def strconv_Itoa(n:Int):Option d7:=if -9223372036854775808<=n/\n<=9223372036854775807 then some (Lib.itoa n)else none
theorem c4W:Sound Tryz.prog GW x9 109 ⟨[.v (.int .i64)],[],[.v .str],[],d7,fun z=>((z,()),()),fun x _=>strconv_Itoa x.1⟩:=by
 refine Sound.ofExt Tryz.call109 fun M w vs x z hG hM hA hz=>?_
 obtain⟨n,u⟩:=x
 match vs,hA with
 |[v1],hA=>
  obtain⟨h1,_⟩:=hA;change strconv_Itoa n=some z at hz;unfold strconv_Itoa at hz;split at hz
  ·rename_i hc;have e:Lib.itoa n=z:=Option.some.inj hz;subst e;rw[RepV.int h1];refine(Any.strconv_Itoa Tryz.laysM171 n hc.1 hc.2 w hG.tab).mono fun e w' hp=>?_
   obtain⟨rfl,k,os,rfl⟩:=hp;refine⟨[_],rfl,?_,b8B _,trivial⟩;exact⟨rfl,rfl,rfl,by simp[Sort.grow],fun b hb=>by simp only[Sort.grow];exact Array.getElem?_append_left hb⟩
  ·cases hz
end
section
section
variable{P:Program}
theorem b6u(w:World)(base:Nat)(t u ty e:TypeId)(i:TypeInfo)(ht:P.underlying t=some (.slice e))(hu:P.underlying u=some .string)(hi:P.info? e=some i)(hz:i.zero=some (.int .u8 0))
  (hsize:i.size=1) (hby:i.bytes=1) (v:Value) (n:Nat) (xs:List Value) (hown:w.ownsRow base e 1 v n xs) (s:ByteArray) (hb:n+s.size<=140737488355328) (hbase:base<=w.heap.size):
  ∃v' w',(Builtin.append_ #[t,u] ty #[v,.string s]).run P w = .ok v' w'/\w'.ownsRow base e 1 v' (n+s.size) (xs++Lib.strCells s)/\
   ((v'.ownBlock=v.ownBlock/\w.grownBy w' v.ownBlock)\/(Ext w w'/\v'.ownBlock=some w.heap.size)):=by
 have h63:n+s.size<=maxLen:=by unfold maxLen;omega
 obtain⟨v',w',hr,h2,h3,h4⟩:=Lib.run_append_own_string (P:=P) w base t u ty e i ht hu hi hz hsize hby v n xs hown s h63 hb hbase;refine⟨v',w',hr,h2,?_⟩;have hxl:xs.length=n:=by simpa using hown.1
 rcases hown.2 with⟨rfl,rfl⟩|⟨g,cap,cur,rfl,hbg,hg,hnc,hcm,hcs,htake⟩
 ·by_cases hm:s.size=0
  ·have e1:=h4.2 ⟨rfl,hm⟩;subst e1;exact .inl ⟨rfl,h3⟩
  ·have hr2:=run_append_nil_string (P:=P) w t u ty e i (.int .u8 0) ht hu hi hz s (by omega) (by omega) (by rw[hby];omega);rw[hr]at hr2;injection hr2 with e1 e2
   exact .inr ⟨by rw[e2];exact(Ext.refl w).drew.alloc _,by rw[e1];rfl⟩
 ·by_cases hroom:n+s.size<=cap
  ·have hcs':cur.size=cap:=by simpa using hcs
   have hr2:=Lib.run_append_room_string (P:=P) w t u ty e i ht hu hi hsize g n cap cur hg s hroom (by omega);rw[hr]at hr2;injection hr2 with e1 e2
   exact .inl ⟨by rw[e1];rfl,h3⟩
  ·have holds:∀j u,xs[j]? = some u->w.cell? ((⟨g,0,none⟩:Addr).add j)=some u:=hown.cells (g:=g) rfl;have hr2:=Lib.run_append_grow_string (P:=P) w t u ty e i (.int .u8 0) ht hu hi hz ⟨g,0,none⟩ n cap xs (by rw[hsize];simpa using hxl) holds s (by omega) (by omega) (by rw[hby];exact growslice_fits (by omega) (by omega));rw[hr]at hr2;injection hr2 with e1 e2
   exact .inr ⟨by rw[e2];exact(Ext.refl w).drew.alloc _,by rw[e1];rfl⟩
theorem b8F{w:World}{ops:Array Oper}{rest:List Oper}{o:Oper}{a:Act}{Q:Exit->Act->World->Prop}(hgd:o.guard=none)(sl x:Operand)(t u:TypeId)
  (ho:o.op = .call {callee:= .builtin .append,args:=#[sl,x],argTypes:=#[t,u]})
  (e:TypeId) (i:TypeInfo) (ht:P.underlying t=some (.slice e)) (hu:P.underlying u=some .string) (hi:P.info? e=some i) (hz:i.zero=some (.int .u8 0))
  (hsize:i.size=1) (hby:i.bytes=1)
  (v:Value) (n:Nat) (xs:List Value) (hs:a.eval sl=v) (hown:w.ownsRow 0 e 1 v n xs) (s:ByteArray) (hx:a.eval x = .string s) (hbytes:n+s.size<=140737488355328)
  (h:∀v' w',w'.ownsRow 0 e 1 v' (n+s.size) (xs++Lib.strCells s)->((v'.ownBlock=v.ownBlock/\w.grownBy w' v.ownBlock)\/(Ext w w'/\v'.ownBlock=some w.heap.size))->wpList P ops Q rest (a.put o.dst v') w'):wpList P ops Q (o :: rest) a w:=by
 refine wpList_plain hgd fun K hK=>?_
 obtain⟨v',w',hr,h2,h3⟩:=b6u (P:=P) w 0 t u o.type e i ht hu hi hz hsize hby v n xs hown s hbytes (Nat.zero_le _);unfold Oper.wp execOp;simp only[ho,resolve,invoke,builtin,Sem.run_bind,Sem.run_pure,Result.andThen_ok,List.map_toArray,List.map_cons,List.map_nil,hs,hx,hr];exact hK _ _ (h v' w' h2 h3)
end
theorem d7d:(Tryz.prog.info? 5).map (fun i=>(i.zero,i.size,i.bytes))=some (some (.int .u8 0),1,1):=by kernel_rfl
theorem c13:(Tryz.prog.info? 86).map (·.size)=some 2:=by kernel_rfl
theorem d1H:liesAt Tryz.prog Tryz.prog.depth 88 (2 / Tryz.prog.cellsOf 88) 0 86 1=true:=by kernel_rfl
set_option maxHeartbeats 1000000 in
set_option maxRecDepth 100000 in
theorem d1I(b:Nat)(w:World)(h0:w.cell? ⟨b,0,none⟩=some (.pointer (some ⟨b,0,none⟩))):
  Calls Tryz.prog 156 #[.pointer (some ⟨b,0,none⟩)] w fun e w'=>e = .returned (.tuple #[])/\w'=w:=by
 obtain⟨j,hj,_⟩:=Option.map_eq_some_iff.1 c13
 go_enter Tryz.func156,Tryz.ntmps156
 go_wp2
 rw[Lib.run_neq_ptr_same w _ Tryz.underlying83 hj]
 go_wp2
 go_end0
 exact⟨rfl,rfl⟩
set_option maxHeartbeats 1000000 in
set_option maxRecDepth 100000 in
theorem c5H(b:Nat)(w:World)(h0:w.cell? ⟨b,0,none⟩=some (.pointer none))(hsh:w.shape? b=some (88,2))(hfz:w.frozen? ⟨b,0,none⟩=false):
  Calls Tryz.prog 156 #[.pointer (some ⟨b,0,none⟩)] w fun e w'=>e = .returned (.tuple #[])/\w'=w.setCell ⟨b,0,none⟩ (.pointer (some ⟨b,0,none⟩)):=by
 obtain⟨j,hj,hjs⟩:=Option.map_eq_some_iff.1 c13
 go_enter Tryz.func156,Tryz.ntmps156
 go_wp2
 rw[Lib.run_to_unsafe w ⟨b,0,none⟩ Tryz.underlying83 Tryz.underlying258 hj (by rw[hjs];decide) hsh (Nat.zero_lt_succ 1)];simp only[Result.andThen];rw[Oper.upon_value]
 go_wp2
 rw[run_callFunc_extern Tryz.func198 (by kernel_rfl) (by kernel_rfl) (by kernel_rfl) (e:=Extern.AbiNoEscape.same) (by kernel_rfl)];rw[Lib.run_noEscape];simp only[Result.andThen];rw[Oper.upon_value]
 go_wp2
 rw[Lib.run_from_unsafe w ⟨b,0,none⟩ Tryz.underlying258 Tryz.underlying83 hj hsh d1H];simp only[Result.andThen];rw[Oper.upon_value]
 go_wp2
 go_end0
 exact⟨rfl,rfl⟩
def b0Y(w:World)(b:Nat)(p v:Value)(bs:List Value):Prop:=w.heap[b]? = some (.cells #[p,v] 88 (0,0))/\w.ownsRow 0 5 1 v bs.length bs/\v.ownBlock≠some b
def a3x(b:Nat):Value:= .pointer (some ⟨b,0,none⟩)
theorem c5G{b:Nat}{p v:Value}{bs:List Value}{w:World}(h:b0Y w b p v bs)(hp:p = .pointer none\/p=a3x b):
  Calls Tryz.prog 156 #[.pointer (some ⟨b,0,none⟩)] w fun e w'=>e = .returned (.tuple #[])/\b0Y w' b (a3x b) v bs/\ExtX (fun k=>k=b) w w'/\w'.heap.size=w.heap.size:=by
 obtain⟨h1,h2,h3⟩:=h;rcases hp with rfl|rfl
 ·refine(c5H b w (by rw[Lib.cell_of_heap h1];rfl) (by simp[World.shape?,h1]) (Lib.frozen_of_heap h1 0)).mono ?_;rintro e w' ⟨rfl,rfl⟩;have hX:∀k,k≠b->(w.setCell ⟨b,0,none⟩ (.pointer (some ⟨b,0,none⟩))).heap[k]? = w.heap[k]?:=fun k hk=>Below.heap_setCell _ _ _ _ (fun e=>hk (by simp[e]))
  refine⟨rfl,⟨?_,?_,h3⟩,⟨rfl,rfl,rfl,by simp[World.setCell],fun k _ hk=>hX k hk⟩,by simp[World.setCell]⟩
  ·simp[World.setCell,Array.getElem?_modify,h1,a3x]
  ·exact h2.kept (row:=some b) ⟨rfl,rfl,rfl,by simp[World.setCell],fun k _ hk=>hX k (fun e=>hk (by simp[e]))⟩ (Or.inr h3)
 ·refine(d1I b w (by rw[Lib.cell_of_heap h1];rfl)).mono ?_;rintro e w' ⟨rfl,rfl⟩;exact⟨rfl,⟨h1,h2,h3⟩,ExtX.refl _ _,rfl⟩
set_option maxHeartbeats 2000000 in
set_option maxRecDepth 100000 in
theorem c5I{b:Nat}{p v:Value}{bs:List Value}{w:World}(h:b0Y w b p v bs)(hp:p = .pointer none\/p=a3x b)(s:ByteArray)(hlen:bs.length+s.size<=140737488355328):
  Calls Tryz.prog 105 #[.pointer (some ⟨b,0,none⟩),.string s] w fun e w'=>e = .returned (.tuple #[.int .i64 s.size,.nilIface])/\∃v',b0Y w' b (a3x b) v' (bs++Lib.strCells s)/\
   ExtX (fun k=>k=b\/v.ownBlock=some k) w w'/\∀k,v'.ownBlock=some k->v.ownBlock=some k\/w.heap.size<=k:=by
 obtain⟨i0,hi,hz0,hz1,hz2⟩:=info_parts d7d
 go_enter Tryz.func105,Tryz.ntmps105
 go_wp2_with (go_at_call 156;refine(c5G h hp).mono ?_)
 rintro e w1 ⟨rfl,h1',hX1,hsz1⟩;obtain⟨hbk,hown,hne⟩:=h1';have c0:w1.cell? ⟨b,0,none⟩=some (a3x b):=by rw[Lib.cell_of_heap hbk];rfl
 have c1:w1.cell? ⟨b,1,none⟩=some v:=by rw[Lib.cell_of_heap hbk];rfl
 go_wp2_with (at_builtin;refine b8F rfl _ _ 84 9 rfl 5 i0 Tryz.underlying84 Tryz.underlying9 hi hz0 hz1 hz2 _ _ _ rfl hown s rfl hlen ?_)
 intro v' w2 hown' hgrow;have hlt:b<w1.heap.size:=A4 hbk;have hX2:ExtX (fun k=>v.ownBlock=some k) w1 w2:=by
  rcases hgrow with⟨_,hg⟩|⟨hE,_⟩
  ·exact⟨hg.os,hg.tape,hg.output,hg.size,fun k hk hn=>hg.block k hk (fun e=>hn e.symm)⟩
  ·exact ExtX.of_ext hE
 have hb2:w2.heap[b]? = some (.cells #[a3x b,v] 88 (0,0)):=(hX2.block b hlt hne).trans hbk;have d0:w2.cell? ⟨b,0,none⟩=some (a3x b):=by rw[Lib.cell_of_heap hb2];rfl
 have d1:w2.cell? ⟨b,1,none⟩=some v:=by rw[Lib.cell_of_heap hb2];rfl
 have f1:w2.frozen? ⟨b,1,none⟩=false:=Lib.frozen_of_heap hb2 1;obtain⟨ao,n',cap,rfl⟩:∃ao n' cap,v' = .slice ao n' cap:=by
  rcases hown'.2 with⟨hv,_⟩|⟨g,cap,cur,hv,_⟩
  ·exact⟨_,_,_,hv⟩
  ·exact⟨_,_,_,hv⟩
 go_wp2
 go_ret2
 have hne2:=Lib.ownBlock_ne hown' hb2 (by decide);have hX:∀k,k≠b->(w2.setCell ⟨b,1,none⟩ (.slice ao n' cap)).heap[k]? = w2.heap[k]?:=fun k hk=>Below.heap_setCell _ _ _ _ (fun e=>hk (by simp[e]))
 refine⟨rfl,.slice ao n' cap,⟨?_,?_,hne2⟩,?_,?_⟩
 ·simp[World.setCell,Array.getElem?_modify,hb2,a3x]
 ·have:=hown'.kept (row:=some b) (w':=w2.setCell ⟨b,1,none⟩ (.slice ao n' cap)) ⟨rfl,rfl,rfl,by simp[World.setCell],fun k _ hk=>hX k (fun e=>hk (by simp[e]))⟩ (Or.inr hne2);rw[List.length_append,Lib.strCells_length];exact this
 ·refine⟨hX2.os.trans hX1.os,hX2.tape.trans hX1.tape,hX2.output.trans hX1.output,by have:=hX1.size;have:=hX2.size;simp[World.setCell];omega,fun k hk hn=>?_⟩;rw[hX k (fun e=>hn (.inl e)),hX2.block k (Nat.lt_of_lt_of_le hk hX1.size) (fun e=>hn (.inr e)),hX1.block k hk (fun e=>hn (.inl e))]
 ·intro k hk;rcases hgrow with⟨he,_⟩|⟨_,he⟩
  ·rw[he]at hk;exact .inl hk
  ·rw[he]at hk;injection hk with hk;exact .inr (by omega)
set_option maxHeartbeats 1000000 in
set_option maxRecDepth 100000 in
theorem d4U{b:Nat}{p v:Value}{bs:List Value}{w:World}(h:b0Y w b p v bs):
  Calls Tryz.prog 30 #[.pointer (some ⟨b,0,none⟩)] w fun e w'=>e = .returned (.int .i64 bs.length)/\w'=w:=by
 obtain⟨hbk,hown,hne⟩:=h;obtain⟨ao,cap,rfl⟩:∃ao cap,v = .slice ao bs.length cap:=by
  rcases hown.2 with⟨hv,h0⟩|⟨g,cap,cur,hv,_⟩
  ·exact⟨none,0,by rw[hv,h0]⟩
  ·exact⟨_,_,hv⟩
 have c1:w.cell? ⟨b,1,none⟩=some (.slice ao bs.length cap):=by rw[Lib.cell_of_heap hbk];rfl
 go_enter Tryz.func30,Tryz.ntmps30
 go_wp2
 go_ret
 exact⟨rfl,rfl⟩
set_option maxHeartbeats 1000000 in
set_option maxRecDepth 100000 in
theorem b9E{b:Nat}{p v:Value}{l:List UInt8}{w w0:World}(h:b0Y w b p v (Lib.byteCells l))(h0:l ≠ [])(hE:Ext w0 w)(hv:∀k,v.ownBlock=some k->w0.heap.size<=k):
  Calls Tryz.prog 31 #[.pointer (some ⟨b,0,none⟩)] w fun e w'=>e = .returned (.string ⟨l.toArray⟩)/\Ext w0 w':=by
 obtain⟨hbk,hown,hne⟩:=h;have hl0:l.length≠0:=by simpa using h0
 rw[Lib.byteCells_length]at hown;obtain⟨g,cap,cur,rfl,hbg,hg,hnc,hcm,hcs,htake⟩:∃g cap cur,v = .slice (some ⟨g,0,none⟩) l.length cap/\0<=g/\w.heap[g]? = some (.cells cur 5 (0,0))/\l.length<=cap/\cap<=maxLen/\cur.size=cap*1/\cur.toList.take (l.length*1)=Lib.byteCells l:=by
  rcases hown.2 with⟨_,hz⟩|⟨g,cap,cur,hv,r⟩
  ·exact absurd hz hl0
  ·exact⟨g,cap,cur,hv,r⟩
 have hgB:=hv g rfl;have c1:w.drew.cell? ⟨b,1,none⟩=some (.slice (some ⟨g,0,none⟩) l.length cap):=by
  have:w.drew.heap[b]? = some (.cells #[p,.slice (some ⟨g,0,none⟩) l.length cap] 88 (0,0)):=hbk;rw[Lib.cell_of_heap this];rfl
 have hSD:(Builtin.unsafeSliceData_ #[84] 129 #[.slice (some ⟨g,0,none⟩) l.length cap]).run Tryz.prog w.drew = .ok (.pointer (some ⟨g,0,none⟩)) w.drew:=
  Lib.run_unsafeSliceData_row _ _ _ _ _ _ (by omega)
 have hUS:(Builtin.unsafeString_ #[129,3] 9 #[.pointer (some ⟨g,0,none⟩),.int .i64 l.length]).run Tryz.prog w.drew = .ok (.string ⟨l.toArray⟩) (w.drew.freeze ⟨g,0,none⟩ l.length):=by
  refine Lib.run_unsafeString_row w.drew 129 3 9 5 Tryz.underlying129 (by kernel_rfl) g cur.size (by have hg':w.drew.heap[g]? = some (.cells cur 5 (0,0)):=hg;simp[World.shape?,hg']) l h0 (by omega) (by unfold maxLen at hcm;omega) ?_;intro j x hx;have:=hown.cells (g:=g) rfl j (.int .u8 x.toNat) (by simp[Lib.byteCells,hx]);exact this
 have hfin:Ext w0 (w.drew.freeze ⟨g,0,none⟩ l.length):=Lib.below_freeze hE.drew (p:=⟨g,0,none⟩) hgB _
 go_enter Tryz.func31,Tryz.ntmps31
 go_wp2
 go_region
 all_goals (go_wp2;go_ret;exact⟨rfl,hfin⟩)
set_option maxHeartbeats 1000000 in
set_option maxRecDepth 100000 in
theorem b9D{b:Nat}{p v:Value}{w w0:World}(h:b0Y w b p v [])(hE:Ext w0 w):
  Calls Tryz.prog 31 #[.pointer (some ⟨b,0,none⟩)] w fun e w'=>e = .returned (.string ⟨#[]⟩)/\Ext w0 w':=by
 obtain⟨hbk,hown,hne⟩:=h;have hlt:b<w.heap.size:=A4 hbk;have hUS:∀(W:World) (q:Option Addr),(Builtin.unsafeString_ #[129,3] 9 #[.pointer q,.int .i64 0]).run Tryz.prog W = .ok (.string .empty) W:=fun W q=>Lib.run_unsafeString_none W _ _ _ q
 have c1:w.drew.cell? ⟨b,1,none⟩=some v:=by
  have:w.drew.heap[b]? = some (.cells #[p,v] 88 (0,0)):=hbk;rw[Lib.cell_of_heap this];rfl
 rcases hown.2 with⟨rfl,_⟩|⟨g,cap,cur,rfl,hbg,hg,_,_,_,_⟩
 ·have hSD:(Builtin.unsafeSliceData_ #[84] 129 #[.slice none 0 0]).run Tryz.prog w.drew = .ok (.pointer none) w.drew:=rfl;have hfin:Ext w0 w.drew:=hE.drew
  go_enter Tryz.func31,Tryz.ntmps31
  go_wp2
  go_region
  all_goals (go_wp2;go_ret;exact⟨rfl,hfin⟩)
 ·change w.drew.cell? ⟨b,1,none⟩=some (.slice (some ⟨g,0,none⟩) 0 cap)at c1;by_cases hc0:cap=0
  ·subst hc0;have hSD:(Builtin.unsafeSliceData_ #[84] 129 #[.slice (some ⟨g,0,none⟩) 0 0]).run Tryz.prog w.drew = .ok (.pointer (some ⟨w.drew.heap.size,0,none⟩)) (w.drew.alloc (.view ⟨g,0,none⟩ 5)):=
    Lib.run_unsafeSliceData_zero w.drew _ _ 5 Tryz.underlying129 ⟨g,0,none⟩ 0 (5,cur.size) (by have hg':w.drew.heap[g]? = some (.cells cur 5 (0,0)):=hg;simp[World.shape?,hg'])
   have c2:(w.drew.alloc (.view ⟨g,0,none⟩ 5)).cell? ⟨b,1,none⟩=some (.slice (some ⟨g,0,none⟩) 0 0):=by
    have:(w.drew.alloc (.view ⟨g,0,none⟩ 5)).heap[b]? = _:=(Lib.alloc_old w.drew _ b hlt).trans hbk;rw[Lib.cell_of_heap this];rfl
   have c3:(w.alloc (.view ⟨g,0,none⟩ 5)).drew.cell? ⟨b,1,none⟩=some (.slice (some ⟨g,0,none⟩) 0 0):=c2;have c0:w.cell? ⟨b,1,none⟩=some (.slice (some ⟨g,0,none⟩) 0 0):=c1;have hfin:Ext w0 (w.drew.alloc (.view ⟨g,0,none⟩ 5)):=hE.drew.alloc _
   go_enter Tryz.func31,Tryz.ntmps31
   go_wp2
   go_region
   all_goals (go_wp2;go_ret;exact⟨rfl,hfin⟩)
  ·have hSD:(Builtin.unsafeSliceData_ #[84] 129 #[.slice (some ⟨g,0,none⟩) 0 cap]).run Tryz.prog w.drew = .ok (.pointer (some ⟨g,0,none⟩)) w.drew:=
    Lib.run_unsafeSliceData_row _ _ _ _ _ _ hc0
   have hfin:Ext w0 w.drew:=hE.drew;clear hc0
   go_enter Tryz.func31,Tryz.ntmps31
   go_wp2
   go_region
   all_goals (go_wp2;go_ret;exact⟨rfl,hfin⟩)
theorem c3Z{b:Nat}{p v:Value}{l:List UInt8}{w w0:World}(h:b0Y w b p v (Lib.byteCells l))(hE:Ext w0 w)(hv:∀k,v.ownBlock=some k->w0.heap.size<=k):
  Calls Tryz.prog 31 #[.pointer (some ⟨b,0,none⟩)] w fun e w'=>e = .returned (.string ⟨l.toArray⟩)/\Ext w0 w':=by
 cases l with
 |nil=>exact b9D h hE
 |cons x r=>exact b9E h (by simp) hE hv
theorem Step.made{M:Nat->Nat->Prop}{g g':Gh}{w w':World}(hX:ExtX (R6 g) w w')(hall:∀r x b o,g r=some x->x.blk=some b->M b o)(hnew:∀b,R6 g' b->R6 g b\/w.heap.size<=b):Step M w (y4 M g g') w':=by
 refine⟨fun ad u hc hm=>?_,fun b es c hc hm=>?_⟩
 ·have hlt:=World.block_lt_of_cell? w ad hc;have hn:¬R6 g ad.block:=fun⟨r,x,h1,h2⟩=>hm (hall r x _ _ h1 h2)
  refine⟨by rw[W0 (hX.block _ hlt hn)];exact hc,fun h=>?_⟩;rcases h with h|⟨r,x,h1,h2,_⟩
  ·exact hm h.1
  ·rcases hnew _ ⟨r,x,h1,h2⟩with h3|h3
   ·exact hn h3
   ·omega
 ·have hlt:=A4 hc;have hn:¬R6 g b:=fun⟨r,x,h1,h2⟩=>hm (hall r x _ _ h1 h2)
  refine⟨by rw[hX.block _ hlt hn];exact hc,fun h=>?_⟩;rcases h with h|⟨r,x,h1,h2,_⟩
  ·exact hm h.1
  ·rcases hnew _ ⟨r,x,h1,h2⟩with h3|h3
   ·exact hn h3
   ·omega
theorem a94{M:Nat->Nat->Prop}{w:World}{xs:List UInt8}{cs:List Value}(hl:cs.length=xs.length*1)(h:∀i (h:i<xs.length),RepC M w .u8 xs[i] ((cs.drop (i*1)).take 1)):cs=Lib.byteCells xs:=by
 apply List.ext_getElem
 ·rw[hl,Nat.mul_one];simp[Lib.byteCells]
 ·intro i h1 h2;have hi:i<xs.length:=by rw[hl]at h1;omega
  have:=(show(cs.drop (i*1)).take 1=[Value.int .u8 (UInt8.toNat xs[i])]from h i hi);rw[Nat.mul_one,List.drop_eq_getElem_cons h1]at this;simp only[List.take_succ_cons,List.take_zero,List.cons.injEq,and_true]at this;rw[this];simp[Lib.byteCells]
theorem c35{M:Nat->Nat->Prop}{w:World}(xs:List UInt8):∀i (h:i<xs.length),RepC M w .u8 xs[i] (((Lib.byteCells xs).drop (i*1)).take 1):=by
 intro i hi;have h1:i<(Lib.byteCells xs).length:=by simpa [Lib.byteCells]using hi
 show((Lib.byteCells xs).drop (i*1)).take 1=[Value.int .u8 (UInt8.toNat xs[i])];rw[Nat.mul_one,List.drop_eq_getElem_cons h1];simp[Lib.byteCells]
def R7(s:d7)(w:d7):Option (Int×List UInt8):=if w.length+s.length<=100000000000000 then some ((s.length:Int),w++s)else none
theorem c4L(s:d7):Lib.strCells ⟨s.toArray⟩=Lib.byteCells s:=by simp[Lib.strCells,Lib.byteCells]
theorem c33(a b:d7):Lib.byteCells a++Lib.byteCells b=Lib.byteCells (a++b):=by simp[Lib.byteCells]
theorem d0C:Sound Tryz.prog GW x9 105 ⟨[.box 0 0,.v .str],[.bld 88 [.row 1],.row 5 .u8 true],[.v (.int .i64),.dead],[.bld 88 [.row 1],.row 5 .u8 true],Int×List UInt8,fun z=>((z.1,(),()),((),()),z.2,()),fun x y=>R7 x.2.1 y.2.1⟩:=by
 refine⟨Tryz.call105,fun M w g vs x y z hG hB hfr hz=>?_⟩;obtain⟨_,s,_⟩:=x;obtain⟨_,row,_⟩:=y;have hz:R7 s row=some z:=hz;unfold R7 at hz;split at hz
 case isFalse=>cases hz
 rename_i hlen;cases hz;have hargs:=hfr.args
 match vs,hargs with
 |[v1,v2],hargs=>
 obtain⟨⟨gx,b,hg0,hgv,rfl⟩,h2,_⟩:=hargs;rw[RepV.str h2];obtain⟨g0',hg0',b',p,us,e0,hb,hp,hus⟩:=hfr.res 0 (.bld 88 [.row 1]) rfl;have hg0:g 0=some gx:=hg0;rw[hg0]at hg0';cases hg0';subst e0;obtain rfl:b'=b:=by simpa [O0]using hgv
 match us,hus with
 |[v],hus=>
 obtain⟨⟨g1,A,n,c,hg1,hv1,hv2⟩,_⟩:=hus;have hg1:g 1=some g1:=hg1;obtain⟨g1',hg1',_,cs,hown,hblk,hlo,hcs⟩:=hfr.res 1 (.row 5 .u8 true row) rfl;rw[hg1]at hg1';cases hg1';rw[<-hv1]at hown hblk;have hlo:g1.lo=0:=hlo;have hown:w.ownsRow 0 5 1 v row.length cs:=hown;have hcs':cs=Lib.byteCells row:=a94 hown.1 hcs;subst hcs';have hne:v.ownBlock≠some b':=fun h=>by
  have:=hfr.inj 0 1 _ _ b' hg0 hg1 rfl (by rw[hblk,h]);cases this
 have hbd:b0Y w b' p v (Lib.byteCells row):=⟨hb,by simpa [Lib.byteCells]using hown,hne⟩;refine(c5I hbd hp ⟨s.toArray⟩ (by show(Lib.byteCells row).length+s.length<=_;simp only[Lib.byteCells,List.length_map];omega)).mono fun e w' hq=>?_
 obtain⟨rfl,v',⟨hb',hown',hne'⟩,hX,hnw⟩:=hq;rw[c4L,c33]at hown';obtain⟨A',n',c',hv'⟩:∃A' n' c',v' = .slice A' n' c':=by
  rcases hown'.2 with⟨hv,_⟩|⟨g,cap,cur,hv,_⟩
  ·exact⟨_,_,_,hv⟩
  ·exact⟨_,_,_,hv⟩
 obtain⟨g',hgd⟩:∃g':Gh,g'=fun r=>if r=0 then some ⟨some b',0,O0 b'⟩else if r=1 then some ⟨v'.ownBlock,0,v'⟩else none:=⟨_,rfl⟩
 have h0':g' 0=some ⟨some b',0,O0 b'⟩:=by rw[hgd];rfl
 have h1':g' 1=some ⟨v'.ownBlock,0,v'⟩:=by rw[hgd];rfl
 have hcase:∀r x,g' r=some x->(r=0/\x=⟨some b',0,O0 b'⟩)\/(r=1/\x=⟨v'.ownBlock,0,v'⟩):=fun r x h=>by
  rw[hgd]at h;by_cases h0:r=0
  ·subst h0;exact .inl ⟨rfl,(Option.some.inj h).symm⟩
  ·by_cases h1:r=1
   ·subst h1;exact .inr ⟨rfl,(Option.some.inj h).symm⟩
   ·simp[h0,h1]at h
 have hXg:∀k,(k=b'\/v.ownBlock=some k)->R6 g k:=fun k hk=>by
  rcases hk with rfl|hk
  ·exact⟨0,_,hg0,rfl⟩
  ·exact⟨1,_,hg1,by rw[hblk,hk]⟩
 have hX':=hX.wider hXg;have hnew:∀k,R6 g' k->R6 g k\/w.heap.size<=k:=fun k ⟨r,x,h1,h2⟩=>by
  rcases hcase r x h1 with⟨rfl,rfl⟩|⟨rfl,rfl⟩
  ·injection h2 with h2;exact .inl (hXg k (.inl h2.symm))
  ·rcases hnw k h2 with h3|h3
   ·exact .inl (hXg k (.inr h3))
   ·exact .inr h3
 have hall:∀r x k o,g r=some x->x.blk=some k->M k o:=fun r x k o h1 h2=>by
  have hd:=hfr.dom r x h1;have:r=0\/r=1:=by simp at hd;omega
  rcases this with rfl|rfl
  ·rw[hg0]at h1;cases h1;exact(hfr.chg 0 _ k o hg0 h2).2 (Nat.zero_le _)
  ·rw[hg1]at h1;cases h1;exact(hfr.chg 1 _ k o hg1 h2).2 (by rw[hlo];exact Nat.zero_le _)
 have hst:=Step.made hX' hall hnew;have hb2:b'<w'.heap.size:=A4 hb';have hown2:w'.ownsRow 0 5 1 v' (row++s).length (Lib.byteCells (row++s)):=by simpa [Lib.byteCells]using hown'
 have hv'lt:∀k,v'.ownBlock=some k->k<w'.heap.size:=fun k hk=>(hown2.lt k hk).2
 refine⟨[.int .i64 (s.length:Int),.nilIface],g',rfl,hX',hst,{args:=⟨c4P .i64 _,trivial,trivial⟩,res:=fun r blk hr=>?_,dom:=fun r x h=>?_,inj:=fun r r' x x' k h1 h2 h3 h4=>?_,low:=fun r x k h1 h2=>?_,chg:=fun r x k o h1 h2=>?_,mlt:=fun k o h=>?_,row:=fun r x k h1 h2 h3=>?_},fun r x h1 h2=>?_,hnew⟩
 ·match r,hr with
  |0,hr=>
   obtain rfl:Blk.bld 88 [.row 1]=blk:=Option.some.inj hr;exact⟨_,h0',b',_,[v'],rfl,hb',.inr rfl,⟨⟨_,A',n',c',h1',rfl,hv'⟩,trivial⟩⟩
  |1,hr=>
   obtain rfl:Blk.row 5 .u8 true (row++s)=blk:=Option.some.inj hr;exact⟨_,h1',by decide,_,hown2,rfl,rfl,c35 _⟩
  |n+2,hr=>cases hr
 ·rcases hcase r x h with⟨rfl,_⟩|⟨rfl,_⟩<;>decide
 ·rcases hcase r x h1 with⟨rfl,rfl⟩|⟨rfl,rfl⟩<;>rcases hcase r' x' h2 with⟨rfl,rfl⟩|⟨rfl,rfl⟩
  ·rfl
  ·injection h3 with h3;subst h3;exact absurd h4 hne'
  ·injection h4 with h4;subst h4;exact absurd h3 hne'
  ·rfl
 ·rcases hcase r x h1 with⟨rfl,rfl⟩|⟨rfl,rfl⟩
  ·injection h2 with h2;subst h2;exact⟨(hfr.low 0 _ b' hg0 rfl).1,hb2⟩
  ·refine⟨?_,hv'lt k h2⟩;rcases hnw k h2 with h3|h3
   ·exact(hfr.low 1 _ k hg1 (by rw[hblk,h3])).1
   ·exact Nat.le_trans hB h3
 ·have hlo0:x.lo=0:=by rcases hcase r x h1 with⟨rfl,rfl⟩|⟨rfl,rfl⟩<;>rfl
  rw[hlo0];exact⟨fun _=>Nat.zero_le _,fun _=> .inr ⟨r,x,h1,h2,by rw[hlo0];exact Nat.zero_le _⟩⟩
 ·rcases h with h|⟨r,x,h1,h2,_⟩
  ·exact Nat.lt_of_lt_of_le (hfr.mlt k o h.1) hX.size
  ·rcases hcase r x h1 with⟨rfl,rfl⟩|⟨rfl,rfl⟩
   ·injection h2 with h2;subst h2;exact hb2
   ·exact hv'lt k h2
 ·rcases hcase r x h1 with⟨rfl,rfl⟩|⟨rfl,rfl⟩<;>cases h3
 ·rcases h2 with h2|h2
  ·have hd:=hfr.dom r x h1;have:r=0\/r=1:=by simp at hd;omega
   rcases this with rfl|rfl
   ·rw[hg0]at h1;cases h1;exact h0'
   ·rw[hg1]at h1;cases h1;rw[<-hv1,hv2]at h2;cases h2
  ·cases h2
end
end Go.Proofs.YtolpmfhiegpohaaGreatDoor
