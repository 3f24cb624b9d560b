/- % -/
import Derived.Test.YtckdohagilcloaaGreatDoorQRpU
import Derived.Test.YtckdohagilcloaaGreatDoorQShelfS
import Derived.Deep.DeepCutAuto
import Derived.Deep.QuietTactic
import Derived.BigQuiet
import Derived.Laws.CopyOwn
import Derived.IntWalk
import Derived.Lib.AppendStr
import Derived.Lib.Builder
import Derived.Lib.UnsafeStr
import Derived.WalkKit
namespace Go.Proofs.YtckdohagilcloaaGreatDoor
set_option linter.unusedVariables false
set_option linter.unusedSimpArgs false
set_option maxRecDepth 100000
open Go Go.RowKit
section
def rpF(b:UInt8):List UInt8:=if b=10 then [92,110]else if b=34 then [92,34]else if b=92 then [92,92]else [b]
def rpE(l:List UInt8):List UInt8:=l.flatMap rpF
def a8a(b:UInt8):Bool:=b==10||b==34||b==92
def rpN(l:List UInt8):Nat:=l.countP a8a
attribute [local go_sem] d4t b9i b9j b9k
theorem b2g(b:UInt8):(rpF b).length=1+(if a8a b=true then 1 else 0):=by
 unfold rpF a8a;by_cases h1:b=10
 ·simp[h1]
 by_cases h2:b=34
 ·simp[h2]
 by_cases h3:b=92
 ·simp[h3]
 simp[h1,h2,h3]
theorem a9E:∀l:List UInt8,(rpE l).length=l.length+rpN l
 |[]=>rfl
 |b :: l=>by
  have ih:=a9E l;unfold rpE rpN at ih ⊢;rw[List.flatMap_cons,List.length_append,b2g,List.countP_cons,ih,List.length_cons];omega
theorem e04{b:UInt8}(h:¬a8a b=true):rpF b=[b]:=by
 unfold a8a at h;simp only[Bool.or_eq_true,beq_iff_eq,not_or]at h;simp[rpF,h.1.1,h.1.2,h.2]
theorem c4Z(l:List UInt8):rpN l<=l.length:=List.countP_le_length
theorem c1F(s:ByteArray){j:Nat}(h:j<s.size):s.data.toList[j]? = some s[j]/\rpN (s.data.toList.take (j+1))=rpN (s.data.toList.take j)+(if a8a s[j]=true then 1 else 0):=by
 have e:s.data.toList[j]? = some s[j]:=by
  rw[List.getElem?_eq_some_iff];exact⟨h,by simp;rfl⟩
 refine⟨e,?_⟩;rw[List.take_add_one,e];unfold rpN;rw[List.countP_append];simp[List.countP_cons]
theorem c1E:∀l:List UInt8,rpN l=0->rpE l=l
 |[],_=>rfl
 |b :: l,h=>by
  unfold rpN at h;rw[List.countP_cons]at h;have hb:a8a b=false:=by
   cases hb:a8a b with
   |false=>rfl
   |true=>rw[if_pos hb]at h;omega
  have ih:=c1E l (by unfold rpN;omega);unfold rpE at ih ⊢;rw[List.flatMap_cons,ih];unfold a8a at hb;simp only[Bool.or_eq_false_iff,beq_eq_false_iff_ne]at hb;simp[rpF,hb.1.1,hb.1.2,hb.2]
theorem c46{a w:World}{B:Nat}{cur:Array Value}{v:Value}(hb:RpB a B w 3 cur v)(b:UInt8):∃u,w.cell? ⟨B,b.toNat,none⟩=some u/\(if a8a b=true then RpBy a w u (rpF b)else u = .slice none 0 0):=by
 obtain⟨u,hu,he⟩:=hb.all b.toNat (UInt8.toNat_lt b);refine⟨u,(cell_of_row _ _ _ _ _ (0,0) hb.blk).trans hu,?_⟩;have t:∀c:UInt8,b.toNat=c.toNat↔b=c:=fun c=>⟨UInt8.toNat_inj.1,fun h=>by rw[h]⟩
 have t10:=t 10;have t34:=t 34;have t92:=t 92;simp only[b9i,b9j,b9k]at t10 t34 t92;unfold RpEnt at he;simp only[t10,t34,t92]at he;unfold a8a rpF;by_cases h1:b=10
 ·subst h1;simpa using he
 by_cases h2:b=34
 ·subst h2;simpa using he
 by_cases h3:b=92
 ·subst h3;simpa using he
 simpa [h1,h2,h3]using he
def a0Y(l:List UInt8)(k:Nat):Nat:=(if 1<=k then Lib.countByte l 10 else 0)+(if 2<=k then Lib.countByte l 34 else 0)+(if 3<=k then Lib.countByte l 92 else 0)
theorem b0u:∀l:List UInt8,a0Y l 3=rpN l
 |[]=>rfl
 |b :: l=>by
  have ih:=b0u l;unfold a0Y rpN Lib.countByte at ih ⊢;rw[List.countP_cons,<-ih];simp only[List.count_cons,a8a];by_cases h1:b=10
  ·subst h1;simp;omega
  by_cases h2:b=34
  ·subst h2;simp;omega
  by_cases h3:b=92
  ·subst h3;simp;omega
  simp[h1,h2,h3]
theorem b3K(l:List UInt8)(c:UInt8):Lib.countByte l c<=l.length:=List.count_le_length
theorem c1s{w:World}{base:Nat}{e:TypeId}{size:Nat}{v:Value}{n:Nat}{xs:List Value}(h:w.ownsRow base e size v n xs)(hn:n≠0):∃g c,v = .slice (some ⟨g,0,none⟩) n c:=by
 rcases h.2 with⟨rfl,rfl⟩|⟨g',cap,cur,rfl,_⟩
 ·exact absurd rfl hn
 ·exact⟨_,_,rfl⟩
theorem c6M{a w:World}{B:Nat}{cur:Array Value}{v:Value}(hb:RpB a B w 3 cur v)(b:UInt8)(h:a8a b=true):∃A c,w.cell? ⟨B,b.toNat,none⟩=some (.slice (some A) 2 c):=by
 obtain⟨u,hu,he⟩:=c46 hb b;rw[if_pos h]at he;obtain⟨g,cap,cs,fz,rfl,-,-,-⟩:=he;have hl:=b2g b;rw[h,if_pos rfl]at hl;rw[hl]at hu;exact⟨_,_,hu⟩
theorem c9N(L:List Value)(m:Nat)(x:Value)(h:m<L.length):(L.set m x).take (m+1)=L.take m ++ [x]:=by
 rw[List.take_add_one,List.getElem?_set_self h,List.take_set_of_le (Nat.le_refl _)];rfl
theorem c1V(L:List Value)(m:Nat)(cs:List Value)(h:m+cs.length<=L.length):(splice L m cs).take (m+cs.length)=L.take m++cs:=by
 unfold splice;have e:(L.take m++cs).length=m+cs.length:=by rw[List.length_append,List.length_take];omega
 rw[<-List.append_assoc,<-e,List.take_left'];rfl
def b3I(b:UInt8):Value:= .int .u8 (b.toNat:Int)
structure RpC(w:World)(s:ByteArray)(j:Nat)(wr:World)(L:List Value):Prop where
 ext:Ext w wr
 blk:wr.heap[w.heap.size]? = some (.cells L.toArray 5 (0,0))
 len:L.length=s.size+rpN s.data.toList
 pre:L.take (rpE (s.data.toList.take j)).length=(rpE (s.data.toList.take j)).map b3I
theorem e08(w:World)(n:Nat)(h:n<=1000000000):∃Z:List Value,Z.length=n/\(Instr.makeSlice 85 (.int .i64 (n:Int)) (.int .i64 (n:Int))).run Tryz.prog w = .ok (.slice (some ⟨w.heap.size,0,none⟩) n n) (w.alloc (.cells Z.toArray 5)):=by
 have this:=run_make (P:=Tryz.prog) w 85 5 Tryz.t5 (.int .u8 0) Tryz.underlying85 (by kernel_rfl) (by kernel_rfl) .i64 .i64 n n (by omega) (Int.le_refl _) (by show((1:Nat):Int)*n<=_;omega) (by omega);refine⟨(madeCells (Value.int .u8 0).cells n).toList,by simp[size_madeCells],?_⟩;rw[this];rw[Int.toNat_natCast];show Result.ok _ (w.alloc (.cells (madeCells _ (n*1)) _))=_;rw[Nat.mul_one]
theorem d4p(s:ByteArray){j:Nat}(h:j<s.size):rpE (s.data.toList.take (j+1))=rpE (s.data.toList.take j)++rpF s[j]:=by
 rw[List.take_add_one,(c1F s h).1];unfold rpE;rw[List.flatMap_append];simp
theorem e03(s:ByteArray)(j:Nat)(h:j<=s.size):(rpE (s.data.toList.take j)).length<=s.size+rpN s.data.toList:=by
 have h1:(rpE (s.data.toList.take j)).length<=(rpE s.data.toList).length:=by
  have e:rpE s.data.toList=rpE (s.data.toList.take j)++rpE (s.data.toList.drop j):=by
   unfold rpE;rw[<-List.flatMap_append,List.take_append_drop]
  rw[e,List.length_append];omega
 rw[a9E s.data.toList]at h1;exact h1
theorem e6f{wr:World}{g:Nat}{cs:Array Value}{T:TypeId}{fz:Nat×Nat}{l:List UInt8}(h:wr.heap[g]? = some (.cells cs T fz))(hcs:∀(j:Nat) (b:UInt8),l[j]? = some b->cs[j]? = some (.int .u8 (b.toNat:Int))){i:Nat}{v:Value}(hi:(l.map b3I)[i]? = some v):wr.cell? ((⟨g,0,none⟩:Addr).add i)=some v:=by
 have e:((⟨g,0,none⟩:Addr).add i)=⟨g,i,none⟩:=by unfold Addr.add;simp;intro h;exact h.symm
 rw[e,cell_of_row _ _ i _ _ _ h];rw[List.getElem?_map]at hi;cases hb:l[i]? with
 |none=>rw[hb]at hi;cases hi
 |some b=>rw[hb]at hi;rw[hcs i b hb];exact hi
theorem e6d(l:List UInt8):∀v∈l.map b3I,v.oneCell'=true:=by
 intro v hv;obtain⟨b,-,rfl⟩:=List.mem_map.1 hv;rfl
set_option maxHeartbeats 1600000 in
theorem c45(l:World)(B:Nat)(w:World)(cur:Array Value)(v:Value)(hb:RpB l B w 3 cur v)(s:ByteArray)(hs:s.size<=100000000):
  Calls Tryz.prog 347 #[.pointer (some ⟨B,0,none⟩),.string s] w fun e w'=>e = .returned (.string ⟨(rpE s.data.toList).toArray⟩)/\Ext w w':=by
 have k256:w.cell? ⟨B,256,none⟩=some v:=(cell_of_row _ _ 256 _ _ (0,0) hb.blk).trans hb.at256;obtain⟨G,c,rfl⟩:=c1s hb.own (by omega);have t:w.cell? ⟨G,0,none⟩=some (.string ⟨#[10]⟩):=hb.own.cellAt 0 (by omega);have C:w.cell? ⟨G,1,none⟩=some (.string ⟨#[34]⟩):=hb.own.cellAt 1 (by omega);have D:w.cell? ⟨G,2,none⟩=some (.string ⟨#[92]⟩):=hb.own.cellAt 2 (by omega);obtain⟨A10,E,o⟩:=c6M hb 10 rfl;obtain⟨A34,H,p⟩:=c6M hb 34 rfl;obtain⟨A92,J,r⟩:=c6M hb 92 rfl;rw[b9i]at o;rw[b9j]at p;rw[b9k]at r;have l10:=b3K s.data.toList 10;have l34:=b3K s.data.toList 34;have l92:=b3K s.data.toList 92;have hsz:s.data.toList.length=s.size:=rfl;have hne:∀(A:Addr) (c:Nat) (w:World),(binOp .neq 85 (.slice (some A) 2 c) (.slice none 0 0)).run Tryz.prog w = .ok (.bool true) w:=fun _ _ _=>by kernel_rfl
 have hnn:∀(w:World),(binOp .neq 85 (.slice none 0 0) (.slice none 0 0)).run Tryz.prog w = .ok (.bool false) w:=fun _=>by kernel_rfl
 go_enter Tryz.func347,Tryz.ntmps347
 go_upto_if 26 with fail
 go_cut [5,6] (fun n a wc=>(∃q,wc=w.drewN q)/\n = .int .i64 ((s.size+rpN s.data.toList:Nat):Int)/\a = .bool (decide (0<rpN s.data.toList)))
 case first=>
  go_wp2_with fail
  ·rename_i h24;rw[decide_eq_true h24]
   go_loopw [5,6,32] (fun n a i wc=>(∃q,wc=w.drewN q)/\∃k:Nat,k<=3/\i = .int .i64 (k:Int)/\n = .int .i64 ((s.size+a0Y s.data.toList k:Nat):Int)/\a = .bool (decide (0<a0Y s.data.toList k))) (fun _ _ i _=>3-(intOf i).toNat)
   case atStart=>exact⟨⟨0,rfl⟩,0,by omega,rfl,by simp[a0Y],by simp[a0Y]⟩
   case round=>
    obtain⟨⟨q,rfl⟩,k,hk,rfl,rfl,rfl⟩:=hrel;have hk4:k=0\/k=1\/k=2\/k=3:=by omega
    rcases hk4 with rfl|rfl|rfl|rfl
    ·go_wp2_with (go_at_call 171;refine(Tryz.strings_Count_one s 10 _).mono ?_;rintro e w' ⟨rfl,rfl⟩)
     ·have hcp:0<Lib.countByte s.data.toList 10:=by have hc0:=‹(((Lib.countByte s.data.toList 10:Nat):Int) !=0)=true›;simp at hc0;omega
      go_quiet (fail)
      go_wp2_with fail
      go_roundw
      case rel=>
       refine⟨⟨_,rfl⟩,1,by omega,rfl,?_,?_⟩
       ·rw[IntWalk.wrap64_in _ (by simp[a0Y];omega)];simp[a0Y]<;>omega
       ·rw[decide_eq_true (by unfold a0Y;simp;omega)]
      case measure=>simp[intOf]
     ·have hcp:Lib.countByte s.data.toList 10=0:=by have hc0:=‹(((Lib.countByte s.data.toList 10:Nat):Int) !=0)=false›;simp at hc0;omega
      go_roundw
      case rel=>
       refine⟨⟨_,rfl⟩,1,by omega,rfl,?_,?_⟩
       ·simp[a0Y,hcp]
       ·simp[a0Y,hcp]
      case measure=>simp[intOf]
    ·go_wp2_with (go_at_call 171;refine(Tryz.strings_Count_one s 34 _).mono ?_;rintro e w' ⟨rfl,rfl⟩)
     ·have hcp:0<Lib.countByte s.data.toList 34:=by have hc0:=‹(((Lib.countByte s.data.toList 34:Nat):Int) !=0)=true›;simp at hc0;omega
      go_quiet (fail)
      go_wp2_with fail
      go_roundw
      case rel=>
       refine⟨⟨_,rfl⟩,2,by omega,rfl,?_,?_⟩
       ·rw[IntWalk.wrap64_in _ (by simp[a0Y];omega)];simp[a0Y]<;>omega
       ·rw[decide_eq_true (by unfold a0Y;simp;omega)]
      case measure=>simp[intOf]
     ·have hcp:Lib.countByte s.data.toList 34=0:=by have hc0:=‹(((Lib.countByte s.data.toList 34:Nat):Int) !=0)=false›;simp at hc0;omega
      go_roundw
      case rel=>
       refine⟨⟨_,rfl⟩,2,by omega,rfl,?_,?_⟩
       ·simp[a0Y,hcp]
       ·simp[a0Y,hcp]
      case measure=>simp[intOf]
    ·go_wp2_with (go_at_call 171;refine(Tryz.strings_Count_one s 92 _).mono ?_;rintro e w' ⟨rfl,rfl⟩)
     ·have hcp:0<Lib.countByte s.data.toList 92:=by have hc0:=‹(((Lib.countByte s.data.toList 92:Nat):Int) !=0)=true›;simp at hc0;omega
      go_quiet (fail)
      go_wp2_with fail
      go_roundw
      case rel=>
       refine⟨⟨_,rfl⟩,3,by omega,rfl,?_,?_⟩
       ·rw[IntWalk.wrap64_in _ (by simp[a0Y];omega)];simp[a0Y]<;>omega
       ·rw[decide_eq_true (by unfold a0Y;simp;omega)]
      case measure=>simp[intOf]
     ·have hcp:Lib.countByte s.data.toList 92=0:=by have hc0:=‹(((Lib.countByte s.data.toList 92:Nat):Int) !=0)=false›;simp at hc0;omega
      go_roundw
      case rel=>
       refine⟨⟨_,rfl⟩,3,by omega,rfl,?_,?_⟩
       ·simp[a0Y,hcp]
       ·simp[a0Y,hcp]
      case measure=>simp[intOf]
    ·go_wp2_with fail
     go_meet
     case rel=>exact⟨⟨q,rfl⟩,by rw[<-b0u],by rw[<-b0u]⟩
  ·rename_i h24;rw[decide_eq_false (show ¬24<=(s.size:Int) by omega)]
   go_loopw [5,6,10] (fun n a i wc=>(∃q,wc=w.drewN q)/\∃j:Nat,j<=s.size/\i = .int .i64 (j:Int)/\n = .int .i64 ((s.size+rpN (s.data.toList.take j):Nat):Int)/\a = .bool (decide (0<rpN (s.data.toList.take j)))) (fun _ _ i _=>s.size-(intOf i).toNat)
   case atStart=>exact⟨⟨0,rfl⟩,0,by omega,rfl,by simp[rpN],by simp[rpN]⟩
   case round=>
    obtain⟨⟨q,rfl⟩,j,hj,rfl,rfl,rfl⟩:=hrel;by_cases hjs:j<s.size
    ·have hjI:(j:Int)<(s.size:Int):=by omega
     have hle:=c4Z (s.data.toList.take j);have hlt:=List.length_take_le j s.data.toList;obtain⟨u,hu,he⟩:=c46 hb s[j];have h256:((s[j].toNat:Nat):Int)<256:=by have:=UInt8.toNat_lt s[j];omega
     have h0:0<=((s[j].toNat:Nat):Int):=by omega
     obtain⟨hsc,hs1⟩:=c1F s hjs;by_cases hsp:a8a s[j]=true
     ·obtain⟨A1,b,hu1⟩:=c6M hb s[j] hsp;obtain rfl:u=_:=Option.some.inj (hu.symm.trans hu1);clear hu he;have hne1:=hne A1 b
      go_wp2_with fail
      go_roundw
      case rel=>
       refine⟨⟨q,rfl⟩,j+1,by omega,rfl,?_,?_⟩
       ·rw[hs1,if_pos hsp];rfl
       ·rw[hs1,if_pos hsp,decide_eq_true (by omega)]
      case measure=>simp[intOf];omega
     ·rw[if_neg hsp]at he;subst he
      go_wp2_with fail
      go_roundw
      case rel=>exact⟨⟨q,rfl⟩,j+1,by omega,rfl,by rw[hs1,if_neg hsp];rfl,by rw[hs1,if_neg hsp];rfl⟩
      case measure=>simp[intOf];omega
    ·have hjI:¬(j:Int)<(s.size:Int):=by omega
     go_wp2_with fail
     go_meet
     case rel=>exact⟨⟨q,rfl⟩,by rw[List.take_of_length_le (by rw[hsz];omega)];rfl,by rw[List.take_of_length_le (by rw[hsz];omega)]⟩
 case rest=>
  obtain⟨⟨q,rfl⟩,rfl,rfl⟩:=hcut;by_cases hN:0<rpN s.data.toList
  ·rw[decide_eq_true hN];have hNle:=c4Z s.data.toList;obtain⟨Z,hZ,hmk⟩:=e08 (w.drewN q) (s.size+rpN s.data.toList) (by omega);have hmk2:=hmk;rw[Int.natCast_add]at hmk2
   go_wp2_with fail
   go_loopw [13,14] (fun m i wr=>∃(j:Nat) (L:List Value),j<=s.size/\i = .int .i64 (j:Int)/\m = .int .i64 (((rpE (s.data.toList.take j)).length:Nat):Int)/\RpC w s j wr L) (fun _ i _=>s.size-(intOf i).toNat)
   case atStart=>exact⟨0,Z,by omega,rfl,rfl,((Ext.refl w).drewN q).alloc _,heap_alloc_new _ _,hZ,rfl⟩
   case round=>
    obtain⟨j,L,hj,rfl,rfl,hC⟩:=hrel;by_cases hjs:j<s.size
    ·have hjI:(j:Int)<(s.size:Int):=by omega
     have h256:((s[j].toNat:Nat):Int)<256:=by have:=UInt8.toNat_lt s[j];omega
     have h0:0<=((s[j].toNat:Nat):Int):=by omega
     obtain⟨u,hu,he⟩:=c46 hb s[j];have hes:=d4p s hjs;have hfit:=e03 s (j+1) hjs;have hlF:=b2g s[j];obtain⟨m,hm⟩:∃m,(rpE (s.data.toList.take j)).length=m:=⟨_,rfl⟩;have hlE:(rpE (s.data.toList.take (j+1))).length=m+(rpF s[j]).length:=by rw[hes,List.length_append,hm]
     rw[hm];have hmI:(m:Int)<(s.size:Int)+(rpN s.data.toList:Int):=by omega
     have hmN:m<s.size+rpN s.data.toList:=by omega
     by_cases hsp:a8a s[j]=true
     ·rw[if_pos hsp]at he;rw[if_pos hsp]at hlF;obtain⟨g,b,cs,fz,rfl,-,hgb,hcs⟩:=he;rw[hlF]at hu;have hu2:=hC.ext.cell hu;have hgw:=(hC.ext.block g (a2b hgb)).trans hgb;have hne1:=hne ⟨g,0,none⟩ b;have hn1:(2:Nat)=1+1:=rfl;have hmZ:(m:Int)<=(s.size:Int)+(rpN s.data.toList:Int):=by omega
      have hcl:((rpF s[j]).map b3I).length=2:=by rw[List.length_map,hlF]
      go_wp2_with fail
      go_region_law (refine step_copy_splice rfl (.tmp 105) (.tmp 111) 85 85 rfl 5 Tryz.underlying85 (by kernel_rfl) (some ⟨w.heap.size,m,none⟩) (some ⟨g,0,none⟩) (s.size+rpN s.data.toList-m) (s.size+rpN s.data.toList-m) 2 b (by simp[Act.eval,Act.put];omega) (by simp[Act.eval,Act.put]) w.heap.size m L 5 hC.blk ((rpF s[j]).map b3I) (by rw[hcl];exact(Nat.min_eq_left (by omega)).symm) (fun _=>⟨rfl,_,rfl,fun i v hi=>e6f hgw hcs hi⟩) (by rw[hcl,hC.len];omega) (e6d _) w.heap.size w (hC.ext.drew) (Nat.le_refl _) ?_;intro K hg4 hb4)
      go_wp2_with fail
      have hfitL:m+((rpF s[j]).map b3I).length<=L.length:=by rw[hcl,hC.len];omega
      refine⟨⟨j+1,hjs,by simp,by rw[hlE,hlF];simp,splice L m ((rpF s[j]).map b3I),hb4,hg4.out,?_,?_⟩,?_⟩
      ·rw[length_splice _ _ _ hfitL];exact hC.len
      ·rw[hlE,<-List.length_map (f:=b3I),c1V _ _ _ hfitL,hes,List.map_append,<-hC.pre,hm]
      ·simp[intOf];omega
     ·rw[if_neg hsp]at he;subst he;have hu2:=hC.ext.cell hu;rw[if_neg hsp]at hlF;have hmL:m<L.length:=by rw[hC.len];omega
      have kc:wr.cell? ⟨w.heap.size,m,none⟩=some L[m]:=(cell_of_row _ _ m _ _ _ hC.blk).trans (by simp[hmL]);have kf:=D6 hC.blk m
      go_wp2_with fail
      go_roundw
      case rel=>
       refine⟨j+1,L.set m (b3I s[j]),hjs,rfl,by rw[hlE,hlF];rfl,hC.ext.set_ (Nat.le_refl _) _,?_,by rw[List.length_set];exact hC.len,?_⟩
       ·exact(a1F hC.blk m _).trans (by simp[b3I])
       ·rw[hlE,hlF,hes,c9N _ _ _ hmL,List.map_append,<-hC.pre,hm,e04 hsp];rfl
      case measure=>simp[intOf];omega
    ·have hjI:¬(j:Int)<(s.size:Int):=by omega
     have hall:s.data.toList.take j=s.data.toList:=List.take_of_length_le (by rw[hsz];omega);have hpre:=hC.pre;rw[hall,a9E,hsz,List.take_of_length_le (by rw[hC.len];omega)]at hpre;have hcv:=run_convert_bytes_back (P:=Tryz.prog) wr 85 9 5 ⟨w.heap.size,0,none⟩ (s.size+rpN s.data.toList) (rpE s.data.toList) Tryz.underlying85 Tryz.underlying5 Tryz.underlying9 (fun i hi=>by
      have e:((⟨w.heap.size,0,none⟩:Addr).add i)=⟨w.heap.size,i,none⟩:=by unfold Addr.add;simp;intro h;exact h.symm
      rw[e,cell_of_row _ _ i _ _ _ hC.blk,hpre];simp[b3I,hi])
     rw[a9E,hsz]at hcv
     go_wp2_with fail
     go_ret
     exact⟨rfl,hC.ext⟩
  ·rw[decide_eq_false hN]
   go_wp2_with fail
   go_ret
   refine⟨?_,(Ext.refl w).drewN q⟩;show Ending.returned (.string s)=_;rw[c1E _ (by omega)]
end
section
set_option maxHeartbeats 1600000 in
theorem e6b(a:World)(R g c:Nat)(w:World)(hE:Ext a w)(hR0:a.heap.size<=R)
  (hR:w.heap[R]? = some (.cells #[.int .u32 0,.int .i32 0,.int .u32 0,.nilIface,.slice (some ⟨g,0,none⟩) 6 c] 261 (0,0))) (hrow:Row w (some ⟨g,0,none⟩) a6Q) (hg:g≠R) (s:ByteArray) (hs:s.size<=100000000):
  Calls Tryz.prog 117 #[.pointer (some ⟨R,0,none⟩),.string s] w fun e w'=>e = .returned (.string ⟨(rpE s.data.toList).toArray⟩)/\Ext a w':=by
 have hR3:w.cell? ⟨R,3,none⟩=some .nilIface:=cell_of_row _ _ 3 _ _ _ hR;have hmeth:∀(B:Nat) (w:World),(method 514 334 (.pointer (some ⟨B,0,none⟩)) "Replace").run Tryz.prog w = .ok (347,.pointer (some ⟨B,0,none⟩)) w:=fun _ _=>by kernel_rfl
 go_enter Tryz.func117,Tryz.ntmps117
 go_wp2_with (first
  |(go_at_call 186;refine(d4s a R g c w hE hR0 hR hrow hg).mono ?_;rintro e b ⟨rfl,hE1,B,k3,cur,v,hb⟩;unfold rpI at k3;clear hR3)
  |(go_at_call 347;refine(c45 a B b cur v hb s hs).mono ?_;rintro e l ⟨rfl,hE2⟩))
 go_ret
 exact⟨rfl,hE1.trans hE2⟩
theorem e6e(w:World):Row (w.alloc (.cells a6Q.toArray 9)) (some ⟨w.heap.size,0,none⟩) a6Q:=fun _=>⟨_,rfl,fun j u hu=>by
 have e:((⟨w.heap.size,0,none⟩:Addr).add j)=⟨w.heap.size,j,none⟩:=by unfold Addr.add;simp;intro h;exact h.symm
 rw[e,cell_of_row _ _ j _ _ _ (heap_alloc_new w _)];simpa using hu⟩
theorem e52{w:World}{base:Nat}{T U:TypeId}{size:Nat}{g n c:Nat}{xs:List Value}(h:w.ownsRow base T size (.slice (some ⟨g,0,none⟩) n c) n xs){R:Nat}{cs:Array Value}{fz:Nat×Nat}(hR:w.heap[R]? = some (.cells cs U fz))(hT:U≠T):g≠R:=by
 rintro rfl;rcases h.2 with⟨h,_⟩|⟨g',cap,cur,h,_,hh,_⟩
 ·cases h
 ·obtain⟨rfl,_⟩:g=g'/\True:=⟨by injection h with h1;injection h1 with h1;injection h1,trivial⟩;rw[hR]at hh;exact hT (Obj.cells.inj (Option.some.inj hh)).2.1
def rpQ(l:List UInt8):List UInt8:=[34]++rpE l ++ [34]
set_option maxHeartbeats 1600000 in
theorem c9z(w:World)(s:ByteArray)(hs:s.size<=100000000):
  Calls Tryz.prog 60 #[.string s] w fun e w'=>e = .returned (.string ⟨(rpQ s.data.toList).toArray⟩)/\Ext w w':=by
 have hrow:=e6e w;have hl:(rpE s.data.toList).length<=200000000:=by
  have h1:=c4Z s.data.toList;have h2:s.data.toList.length=s.size:=rfl;rw[a9E];omega
 have hl1:¬9223372036854775807<1+(rpE s.data.toList).length:=by omega
 have hl2:¬9223372036854775807<1+(rpE s.data.toList).length+1:=by omega
 go_enter Tryz.func60,Tryz.ntmps60
 go_wp2_with (first
  |(go_at_call 116;refine(e6c ⟨w.heap.size,0,none⟩ _ hrow).mono ?_;rintro e w1 ⟨R,v,rfl,hE1,hR0,hR,hown⟩;obtain⟨g,c,rfl⟩:=c1s hown (by decide);have hE0:Ext w w1:=((Ext.refl w).alloc _).trans hE1;have hR1:w.heap.size<=R:=by{rw[a9a]at hR0;omega};have hne:=e52 hown hR (by decide);have hrow1:Row w1 (some ⟨g,0,none⟩) a6Q:=fun _=>⟨_,rfl,hown.cells rfl⟩)
  |(go_at_call 117;refine(e6b w R g c w1 hE0 hR1 hR hrow1 hne s hs).mono ?_;rintro e a ⟨rfl,hE2⟩))
 go_ret
 refine⟨congrArg (fun x=>Ending.returned (.string x)) (ByteArray.ext ?_),hE2⟩;rw[ByteArray.data_append,ByteArray.data_append];simp[rpQ]
def J2(a:d3):Option d3:=if a.length<=100000000 then some (rpQ a)else none
theorem b7t:Sound Tryz.prog GW x6 60 ⟨[V1],[],[V1],[],d3,fun z=>((z,()),()),fun x _=>J2 x.1⟩:=by
 refine Sound.ofExt Tryz.call60 fun M w vs x z hG hM hA hz=>?_
 obtain⟨a,u⟩:=x
 match vs,hA with
 |[v1],hA=>
  obtain⟨h1,_⟩:=hA;rw[RepV.str h1];change J2 a=some z at hz;unfold J2 at hz;split at hz
  ·rename_i hs;have e:rpQ a=z:=Option.some.inj hz;subst e;refine(c9z w ⟨a.toArray⟩ hs).mono fun e w' hp=>?_
   obtain⟨rfl,hE⟩:=hp;exact⟨[_],rfl,hE,b9D _,trivial⟩
  ·cases hz
end
section
open Go Go.RowKit Go.Shelf
theorem d4h:Builder.Extra Tryz.prog Tryz.lays105_ren:={
 sizeBuilder:=by kernel_rfl
 liesBuilder:=by kernel_rfl
 t5:=Tryz.underlying5
 a5:=Tryz.isAgg5
 z5:=Tryz.sizeOf5
 v5:=Tryz.zeroValue5
 infoByte:=by kernel_rfl
 cellsByte:=by kernel_rfl
 sizeByte:=by kernel_rfl
 neB5:=by decide}
def strings_Repeat(a:d3)(n:Int):Option d3:=if 0<=n/\n<=1000000000/\a.length*n.toNat<=140737488355328 then some (Lib.repeatL a n.toNat)else none
theorem b7m:Sound Tryz.prog GW x6 67 ⟨[V1,V0],[],[V1],[],d3,fun z=>((z,()),()),fun x _=>strings_Repeat x.1 x.2.1⟩:=by
 refine Sound.ofExt Tryz.call67 fun M w vs x z hG hM hA hz=>?_
 obtain⟨a,n,u⟩:=x
 match vs,hA with
 |[v1,v2],hA=>
  obtain⟨h1,h2,_⟩:=hA;change strings_Repeat a n=some z at hz;unfold strings_Repeat at hz;split at hz
  ·rename_i hc;have e:Lib.repeatL a n.toNat=z:=Option.some.inj hz;subst e;obtain⟨k,rfl⟩:=Int.eq_ofNat_of_zero_le hc.1;rw[RepV.str h1,RepV.int h2];refine(Any.strings_Repeat Tryz.lays105 d4h ⟨a.toArray⟩ k w (by omega) (by show a.length*k<=_;exact hc.2.2)).mono fun e w' hp=>?_
   obtain⟨rfl,hE⟩:=hp;exact⟨[_],rfl,hE,b9D _,trivial⟩
  ·cases hz
end
section
open Go Go.RowKit Go.Shelf
def strconv_Itoa(n:Int):Option d3:=if -9223372036854775808<=n/\n<=9223372036854775807 then some (Lib.itoa n)else none
theorem b7H:Sound Tryz.prog GW x6 113 ⟨[V0],[],[V1],[],d3,fun z=>((z,()),()),fun x _=>strconv_Itoa x.1⟩:=by
 refine Sound.ofExt Tryz.call113 fun M w vs x z hG hM hA hz=>?_
 obtain⟨n,u⟩:=x
 match vs,hA with
 |[v1],hA=>
  obtain⟨h1,_⟩:=hA;change strconv_Itoa n=some z at hz;unfold strconv_Itoa at hz;split at hz
  ·rename_i hc;have e:Lib.itoa n=z:=Option.some.inj hz;subst e;rw[RepV.int h1];refine(Any.strconv_Itoa Tryz.laysM171 n hc.1 hc.2 w hG.tab).mono fun e w' hp=>?_
   obtain⟨rfl,k,os,rfl⟩:=hp;refine⟨[_],rfl,?_,b9D _,trivial⟩;exact⟨rfl,rfl,rfl,by simp[Sort.grow],fun b hb=>by simp only[Sort.grow];exact Array.getElem?_append_left hb⟩
  ·cases hz
end
section
section
variable{P:Program}
theorem b9m(w:World)(base:Nat)(t u ty e:TypeId)(i:TypeInfo)(ht:P.underlying t=some (.slice e))(hu:P.underlying u=some .string)(hi:P.info? e=some i)(hz:i.zero=some (.int .u8 0))
  (hsize:i.size=1) (hby:i.bytes=1) (v:Value) (n:Nat) (xs:List Value) (hown:w.ownsRow base e 1 v n xs) (s:ByteArray) (hb:n+s.size<=140737488355328) (hbase:base<=w.heap.size):
  ∃v' w',(Builtin.append_ #[t,u] ty #[v,.string s]).run P w = .ok v' w'/\w'.ownsRow base e 1 v' (n+s.size) (xs++Lib.strCells s)/\
   ((v'.ownBlock=v.ownBlock/\w.grownBy w' v.ownBlock)\/(Ext w w'/\v'.ownBlock=some w.heap.size)):=by
 have h63:n+s.size<=maxLen:=by unfold maxLen;omega
 obtain⟨v',w',hr,h2,h3,h4⟩:=Lib.run_append_own_string (P:=P) w base t u ty e i ht hu hi hz hsize hby v n xs hown s h63 hb hbase;refine⟨v',w',hr,h2,?_⟩;have hxl:xs.length=n:=by simpa using hown.1
 rcases hown.2 with⟨rfl,rfl⟩|⟨g,cap,cur,rfl,hbg,hg,hnc,hcm,hcs,htake⟩
 ·by_cases hm:s.size=0
  ·have e1:=h4.2 ⟨rfl,hm⟩;subst e1;exact .inl ⟨rfl,h3⟩
  ·have hr2:=run_append_nil_string (P:=P) w t u ty e i (.int .u8 0) ht hu hi hz s (by omega) (by omega) (by rw[hby];omega);rw[hr]at hr2;injection hr2 with e1 e2
   exact .inr ⟨by rw[e2];exact(Ext.refl w).drew.alloc _,by rw[e1];rfl⟩
 ·by_cases hroom:n+s.size<=cap
  ·have hcs':cur.size=cap:=by simpa using hcs
   have hr2:=Lib.run_append_room_string (P:=P) w t u ty e i ht hu hi hsize g n cap cur hg s hroom (by omega);rw[hr]at hr2;injection hr2 with e1 e2
   exact .inl ⟨by rw[e1];rfl,h3⟩
  ·have holds:∀j u,xs[j]? = some u->w.cell? ((⟨g,0,none⟩:Addr).add j)=some u:=hown.cells (g:=g) rfl;have hr2:=Lib.run_append_grow_string (P:=P) w t u ty e i (.int .u8 0) ht hu hi hz ⟨g,0,none⟩ n cap xs (by rw[hsize];simpa using hxl) holds s (by omega) (by omega) (by rw[hby];exact growslice_fits (by omega) (by omega));rw[hr]at hr2;injection hr2 with e1 e2
   exact .inr ⟨by rw[e2];exact(Ext.refl w).drew.alloc _,by rw[e1];rfl⟩
theorem c2g{w:World}{ops:Array Oper}{rest:List Oper}{o:Oper}{a:Act}{Q:Exit->Act->World->Prop}(hgd:o.guard=none)(sl x:Operand)(t u:TypeId)
  (ho:o.op = .call {callee:= .builtin .append,args:=#[sl,x],argTypes:=#[t,u]})
  (e:TypeId) (i:TypeInfo) (ht:P.underlying t=some (.slice e)) (hu:P.underlying u=some .string) (hi:P.info? e=some i) (hz:i.zero=some (.int .u8 0))
  (hsize:i.size=1) (hby:i.bytes=1)
  (v:Value) (n:Nat) (xs:List Value) (hs:a.eval sl=v) (hown:w.ownsRow 0 e 1 v n xs) (s:ByteArray) (hx:a.eval x = .string s) (hbytes:n+s.size<=140737488355328)
  (h:∀v' w',w'.ownsRow 0 e 1 v' (n+s.size) (xs++Lib.strCells s)->((v'.ownBlock=v.ownBlock/\w.grownBy w' v.ownBlock)\/(Ext w w'/\v'.ownBlock=some w.heap.size))->wpList P ops Q rest (a.put o.dst v') w'):wpList P ops Q (o :: rest) a w:=by
 refine wpList_plain hgd fun K hK=>?_
 obtain⟨v',w',hr,h2,h3⟩:=b9m (P:=P) w 0 t u o.type e i ht hu hi hz hsize hby v n xs hown s hbytes (Nat.zero_le _);unfold Oper.wp execOp;simp only[ho,resolve,invoke,builtin,Sem.run_bind,Sem.run_pure,Result.andThen_ok,List.map_toArray,List.map_cons,List.map_nil,hs,hx,hr];exact hK _ _ (h v' w' h2 h3)
end
theorem e98:(Tryz.prog.info? 5).map (fun i=>(i.zero,i.size,i.bytes))=some (some (.int .u8 0),1,1):=by kernel_rfl
theorem c6m:(Tryz.prog.info? 87).map (·.size)=some 2:=by kernel_rfl
theorem e0x:liesAt Tryz.prog Tryz.prog.depth 89 (2 / Tryz.prog.cellsOf 89) 0 87 1=true:=by kernel_rfl
set_option maxHeartbeats 1000000 in
set_option maxRecDepth 100000 in
theorem e0y(b:Nat)(w:World)(h0:w.cell? ⟨b,0,none⟩=some (.pointer (some ⟨b,0,none⟩))):
  Calls Tryz.prog 183 #[.pointer (some ⟨b,0,none⟩)] w fun e w'=>e = .returned (.tuple #[])/\w'=w:=by
 obtain⟨j,hj,_⟩:=Option.map_eq_some_iff.1 c6m
 go_enter Tryz.func183,Tryz.ntmps183
 go_wp2
 rw[Lib.run_neq_ptr_same w _ Tryz.underlying84 hj]
 go_wp2
 go_end0
 exact⟨rfl,rfl⟩
set_option maxHeartbeats 1000000 in
set_option maxRecDepth 100000 in
theorem d3b(b:Nat)(w:World)(h0:w.cell? ⟨b,0,none⟩=some (.pointer none))(hsh:w.shape? b=some (89,2))(hfz:w.frozen? ⟨b,0,none⟩=false):
  Calls Tryz.prog 183 #[.pointer (some ⟨b,0,none⟩)] w fun e w'=>e = .returned (.tuple #[])/\w'=w.setCell ⟨b,0,none⟩ (.pointer (some ⟨b,0,none⟩)):=by
 obtain⟨j,hj,hjs⟩:=Option.map_eq_some_iff.1 c6m
 go_enter Tryz.func183,Tryz.ntmps183
 go_wp2
 rw[Lib.run_to_unsafe w ⟨b,0,none⟩ Tryz.underlying84 Tryz.underlying297 hj (by rw[hjs];decide) hsh (Nat.zero_lt_succ 1)];simp only[Result.andThen];rw[Oper.upon_value]
 go_wp2
 rw[run_callFunc_extern Tryz.func226 (by kernel_rfl) (by kernel_rfl) (by kernel_rfl) (e:=Extern.AbiNoEscape.same) (by kernel_rfl)];rw[Lib.run_noEscape];simp only[Result.andThen];rw[Oper.upon_value]
 go_wp2
 rw[Lib.run_from_unsafe w ⟨b,0,none⟩ Tryz.underlying297 Tryz.underlying84 hj hsh e0x];simp only[Result.andThen];rw[Oper.upon_value]
 go_wp2
 go_end0
 exact⟨rfl,rfl⟩
def b2G(w:World)(b:Nat)(p v:Value)(bs:List Value):Prop:=w.heap[b]? = some (.cells #[p,v] 89 (0,0))/\w.ownsRow 0 5 1 v bs.length bs/\v.ownBlock≠some b
def a4U(b:Nat):Value:= .pointer (some ⟨b,0,none⟩)
theorem d3a{b:Nat}{p v:Value}{bs:List Value}{w:World}(h:b2G w b p v bs)(hp:p = .pointer none\/p=a4U b):
  Calls Tryz.prog 183 #[.pointer (some ⟨b,0,none⟩)] w fun e w'=>e = .returned (.tuple #[])/\b2G w' b (a4U b) v bs/\ExtX (fun k=>k=b) w w'/\w'.heap.size=w.heap.size:=by
 obtain⟨h1,h2,h3⟩:=h;rcases hp with rfl|rfl
 ·refine(d3b b w (by rw[Lib.cell_of_heap h1];rfl) (by simp[World.shape?,h1]) (Lib.frozen_of_heap h1 0)).mono ?_;rintro e w' ⟨rfl,rfl⟩;have hX:∀k,k≠b->(w.setCell ⟨b,0,none⟩ (.pointer (some ⟨b,0,none⟩))).heap[k]? = w.heap[k]?:=fun k hk=>Below.heap_setCell _ _ _ _ (fun e=>hk (by simp[e]))
  refine⟨rfl,⟨?_,?_,h3⟩,⟨rfl,rfl,rfl,by simp[World.setCell],fun k _ hk=>hX k hk⟩,by simp[World.setCell]⟩
  ·simp[World.setCell,Array.getElem?_modify,h1,a4U]
  ·exact h2.kept (row:=some b) ⟨rfl,rfl,rfl,by simp[World.setCell],fun k _ hk=>hX k (fun e=>hk (by simp[e]))⟩ (Or.inr h3)
 ·refine(e0y b w (by rw[Lib.cell_of_heap h1];rfl)).mono ?_;rintro e w' ⟨rfl,rfl⟩;exact⟨rfl,⟨h1,h2,h3⟩,ExtX.refl _ _,rfl⟩
set_option maxHeartbeats 2000000 in
set_option maxRecDepth 100000 in
theorem d3c{b:Nat}{p v:Value}{bs:List Value}{w:World}(h:b2G w b p v bs)(hp:p = .pointer none\/p=a4U b)(s:ByteArray)(hlen:bs.length+s.size<=140737488355328):
  Calls Tryz.prog 110 #[.pointer (some ⟨b,0,none⟩),.string s] w fun e w'=>e = .returned (.tuple #[.int .i64 s.size,.nilIface])/\∃v',b2G w' b (a4U b) v' (bs++Lib.strCells s)/\
   ExtX (fun k=>k=b\/v.ownBlock=some k) w w'/\∀k,v'.ownBlock=some k->v.ownBlock=some k\/w.heap.size<=k:=by
 obtain⟨i0,hi,hz0,hz1,hz2⟩:=info_parts e98
 go_enter Tryz.func110,Tryz.ntmps110
 go_wp2_with (go_at_call 183;refine(d3a h hp).mono ?_)
 rintro e a ⟨rfl,h1',hX1,hsz1⟩;obtain⟨hbk,hown,hne⟩:=h1';have c:a.cell? ⟨b,0,none⟩=some (a4U b):=by rw[Lib.cell_of_heap hbk];rfl
 have l:a.cell? ⟨b,1,none⟩=some v:=by rw[Lib.cell_of_heap hbk];rfl
 go_wp2_with (at_builtin;refine c2g rfl _ _ 85 9 rfl 5 i0 Tryz.underlying85 Tryz.underlying9 hi hz0 hz1 hz2 _ _ _ rfl hown s rfl hlen ?_)
 intro v' w2 hown' hgrow;have hlt:b<a.heap.size:=z8 hbk;have hX2:ExtX (fun k=>v.ownBlock=some k) a w2:=by
  rcases hgrow with⟨_,hg⟩|⟨hE,_⟩
  ·exact⟨hg.os,hg.tape,hg.output,hg.size,fun k hk hn=>hg.block k hk (fun e=>hn e.symm)⟩
  ·exact ExtX.of_ext hE
 have hb2:w2.heap[b]? = some (.cells #[a4U b,v] 89 (0,0)):=(hX2.block b hlt hne).trans hbk;have d0:w2.cell? ⟨b,0,none⟩=some (a4U b):=by rw[Lib.cell_of_heap hb2];rfl
 have d1:w2.cell? ⟨b,1,none⟩=some v:=by rw[Lib.cell_of_heap hb2];rfl
 have f1:w2.frozen? ⟨b,1,none⟩=false:=Lib.frozen_of_heap hb2 1;obtain⟨ao,n',cap,rfl⟩:∃ao n' cap,v' = .slice ao n' cap:=by
  rcases hown'.2 with⟨hv,_⟩|⟨g,cap,cur,hv,_⟩
  ·exact⟨_,_,_,hv⟩
  ·exact⟨_,_,_,hv⟩
 go_wp2
 go_ret2
 have hne2:=Lib.ownBlock_ne hown' hb2 (by decide);have hX:∀k,k≠b->(w2.setCell ⟨b,1,none⟩ (.slice ao n' cap)).heap[k]? = w2.heap[k]?:=fun k hk=>Below.heap_setCell _ _ _ _ (fun e=>hk (by simp[e]))
 refine⟨rfl,.slice ao n' cap,⟨?_,?_,hne2⟩,?_,?_⟩
 ·simp[World.setCell,Array.getElem?_modify,hb2,a4U]
 ·have:=hown'.kept (row:=some b) (w':=w2.setCell ⟨b,1,none⟩ (.slice ao n' cap)) ⟨rfl,rfl,rfl,by simp[World.setCell],fun k _ hk=>hX k (fun e=>hk (by simp[e]))⟩ (Or.inr hne2);rw[List.length_append,Lib.strCells_length];exact this
 ·refine⟨hX2.os.trans hX1.os,hX2.tape.trans hX1.tape,hX2.output.trans hX1.output,by have:=hX1.size;have:=hX2.size;simp[World.setCell];omega,fun k hk hn=>?_⟩;rw[hX k (fun e=>hn (.inl e)),hX2.block k (Nat.lt_of_lt_of_le hk hX1.size) (fun e=>hn (.inr e)),hX1.block k hk (fun e=>hn (.inl e))]
 ·intro k hk;rcases hgrow with⟨he,_⟩|⟨_,he⟩
  ·rw[he]at hk;exact .inl hk
  ·rw[he]at hk;injection hk with hk;exact .inr (by omega)
set_option maxHeartbeats 1000000 in
set_option maxRecDepth 100000 in
theorem e5D{b:Nat}{p v:Value}{bs:List Value}{w:World}(h:b2G w b p v bs):
  Calls Tryz.prog 29 #[.pointer (some ⟨b,0,none⟩)] w fun e w'=>e = .returned (.int .i64 bs.length)/\w'=w:=by
 obtain⟨hbk,hown,hne⟩:=h;obtain⟨ao,cap,rfl⟩:∃ao cap,v = .slice ao bs.length cap:=by
  rcases hown.2 with⟨hv,h0⟩|⟨g,cap,cur,hv,_⟩
  ·exact⟨none,0,by rw[hv,h0]⟩
  ·exact⟨_,_,hv⟩
 have a:w.cell? ⟨b,1,none⟩=some (.slice ao bs.length cap):=by rw[Lib.cell_of_heap hbk];rfl
 go_enter Tryz.func29,Tryz.ntmps29
 go_wp2
 go_ret
 exact⟨rfl,rfl⟩
set_option maxHeartbeats 1000000 in
set_option maxRecDepth 100000 in
theorem c4t{b:Nat}{p v:Value}{l:List UInt8}{w a:World}(h:b2G w b p v (Lib.byteCells l))(h0:l ≠ [])(hE:Ext a w)(hv:∀k,v.ownBlock=some k->a.heap.size<=k):
  Calls Tryz.prog 30 #[.pointer (some ⟨b,0,none⟩)] w fun e w'=>e = .returned (.string ⟨l.toArray⟩)/\Ext a w':=by
 obtain⟨hbk,hown,hne⟩:=h;have hl0:l.length≠0:=by simpa using h0
 rw[Lib.byteCells_length]at hown;obtain⟨g,cap,cur,rfl,hbg,hg,hnc,hcm,hcs,htake⟩:∃g cap cur,v = .slice (some ⟨g,0,none⟩) l.length cap/\0<=g/\w.heap[g]? = some (.cells cur 5 (0,0))/\l.length<=cap/\cap<=maxLen/\cur.size=cap*1/\cur.toList.take (l.length*1)=Lib.byteCells l:=by
  rcases hown.2 with⟨_,hz⟩|⟨g,cap,cur,hv,r⟩
  ·exact absurd hz hl0
  ·exact⟨g,cap,cur,hv,r⟩
 have hgB:=hv g rfl;have c:w.drew.cell? ⟨b,1,none⟩=some (.slice (some ⟨g,0,none⟩) l.length cap):=by
  have:w.drew.heap[b]? = some (.cells #[p,.slice (some ⟨g,0,none⟩) l.length cap] 89 (0,0)):=hbk;rw[Lib.cell_of_heap this];rfl
 have hSD:(Builtin.unsafeSliceData_ #[85] 129 #[.slice (some ⟨g,0,none⟩) l.length cap]).run Tryz.prog w.drew = .ok (.pointer (some ⟨g,0,none⟩)) w.drew:=
  Lib.run_unsafeSliceData_row _ _ _ _ _ _ (by omega)
 have hUS:(Builtin.unsafeString_ #[129,3] 9 #[.pointer (some ⟨g,0,none⟩),.int .i64 l.length]).run Tryz.prog w.drew = .ok (.string ⟨l.toArray⟩) (w.drew.freeze ⟨g,0,none⟩ l.length):=by
  refine Lib.run_unsafeString_row w.drew 129 3 9 5 Tryz.underlying129 (by kernel_rfl) g cur.size (by have hg':w.drew.heap[g]? = some (.cells cur 5 (0,0)):=hg;simp[World.shape?,hg']) l h0 (by omega) (by unfold maxLen at hcm;omega) ?_;intro j x hx;have:=hown.cells (g:=g) rfl j (.int .u8 x.toNat) (by simp[Lib.byteCells,hx]);exact this
 have hfin:Ext a (w.drew.freeze ⟨g,0,none⟩ l.length):=Lib.below_freeze hE.drew (p:=⟨g,0,none⟩) hgB _
 go_enter Tryz.func30,Tryz.ntmps30
 go_wp2
 go_region
 all_goals (go_wp2;go_ret;exact⟨rfl,hfin⟩)
set_option maxHeartbeats 1000000 in
set_option maxRecDepth 100000 in
theorem c4s{b:Nat}{p v:Value}{w a:World}(h:b2G w b p v [])(hE:Ext a w):
  Calls Tryz.prog 30 #[.pointer (some ⟨b,0,none⟩)] w fun e w'=>e = .returned (.string ⟨#[]⟩)/\Ext a w':=by
 obtain⟨hbk,hown,hne⟩:=h;have hlt:b<w.heap.size:=z8 hbk;have hUS:∀(W:World) (q:Option Addr),(Builtin.unsafeString_ #[129,3] 9 #[.pointer q,.int .i64 0]).run Tryz.prog W = .ok (.string .empty) W:=fun W q=>Lib.run_unsafeString_none W _ _ _ q
 have c:w.drew.cell? ⟨b,1,none⟩=some v:=by
  have:w.drew.heap[b]? = some (.cells #[p,v] 89 (0,0)):=hbk;rw[Lib.cell_of_heap this];rfl
 rcases hown.2 with⟨rfl,_⟩|⟨g,cap,cur,rfl,hbg,hg,_,_,_,_⟩
 ·have hSD:(Builtin.unsafeSliceData_ #[85] 129 #[.slice none 0 0]).run Tryz.prog w.drew = .ok (.pointer none) w.drew:=rfl;have hfin:Ext a w.drew:=hE.drew
  go_enter Tryz.func30,Tryz.ntmps30
  go_wp2
  go_region
  all_goals (go_wp2;go_ret;exact⟨rfl,hfin⟩)
 ·change w.drew.cell? ⟨b,1,none⟩=some (.slice (some ⟨g,0,none⟩) 0 cap)at c;by_cases hc0:cap=0
  ·subst hc0;have hSD:(Builtin.unsafeSliceData_ #[85] 129 #[.slice (some ⟨g,0,none⟩) 0 0]).run Tryz.prog w.drew = .ok (.pointer (some ⟨w.drew.heap.size,0,none⟩)) (w.drew.alloc (.view ⟨g,0,none⟩ 5)):=
    Lib.run_unsafeSliceData_zero w.drew _ _ 5 Tryz.underlying129 ⟨g,0,none⟩ 0 (5,cur.size) (by have hg':w.drew.heap[g]? = some (.cells cur 5 (0,0)):=hg;simp[World.shape?,hg'])
   have l:(w.drew.alloc (.view ⟨g,0,none⟩ 5)).cell? ⟨b,1,none⟩=some (.slice (some ⟨g,0,none⟩) 0 0):=by
    have:(w.drew.alloc (.view ⟨g,0,none⟩ 5)).heap[b]? = _:=(Lib.alloc_old w.drew _ b hlt).trans hbk;rw[Lib.cell_of_heap this];rfl
   have m:(w.alloc (.view ⟨g,0,none⟩ 5)).drew.cell? ⟨b,1,none⟩=some (.slice (some ⟨g,0,none⟩) 0 0):=l;have o:w.cell? ⟨b,1,none⟩=some (.slice (some ⟨g,0,none⟩) 0 0):=c;have hfin:Ext a (w.drew.alloc (.view ⟨g,0,none⟩ 5)):=hE.drew.alloc _
   go_enter Tryz.func30,Tryz.ntmps30
   go_wp2
   go_region
   all_goals (go_wp2;go_ret;exact⟨rfl,hfin⟩)
  ·have hSD:(Builtin.unsafeSliceData_ #[85] 129 #[.slice (some ⟨g,0,none⟩) 0 cap]).run Tryz.prog w.drew = .ok (.pointer (some ⟨g,0,none⟩)) w.drew:=
    Lib.run_unsafeSliceData_row _ _ _ _ _ _ hc0
   have hfin:Ext a w.drew:=hE.drew;clear hc0
   go_enter Tryz.func30,Tryz.ntmps30
   go_wp2
   go_region
   all_goals (go_wp2;go_ret;exact⟨rfl,hfin⟩)
theorem c8X{b:Nat}{p v:Value}{l:List UInt8}{w a:World}(h:b2G w b p v (Lib.byteCells l))(hE:Ext a w)(hv:∀k,v.ownBlock=some k->a.heap.size<=k):
  Calls Tryz.prog 30 #[.pointer (some ⟨b,0,none⟩)] w fun e w'=>e = .returned (.string ⟨l.toArray⟩)/\Ext a w':=by
 cases l with
 |nil=>exact c4s h hE
 |cons x r=>exact c4t h (by simp) hE hv
theorem Step.made{M:Nat->Nat->Prop}{g g':Gh}{w w':World}(hX:ExtX (Z4 g) w w')(hall:∀r x b o,g r=some x->x.blk=some b->M b o)(hnew:∀b,Z4 g' b->Z4 g b\/w.heap.size<=b):Step M w (y6 M g g') w':=by
 refine⟨fun ad u hc hm=>?_,fun b es c hc hm=>?_⟩
 ·have hlt:=World.block_lt_of_cell? w ad hc;have hn:¬Z4 g ad.block:=fun⟨r,x,h1,h2⟩=>hm (hall r x _ _ h1 h2)
  refine⟨by rw[Z6 (hX.block _ hlt hn)];exact hc,fun h=>?_⟩;rcases h with h|⟨r,x,h1,h2,_⟩
  ·exact hm h.1
  ·rcases hnew _ ⟨r,x,h1,h2⟩with h3|h3
   ·exact hn h3
   ·omega
 ·have hlt:=z8 hc;have hn:¬Z4 g b:=fun⟨r,x,h1,h2⟩=>hm (hall r x _ _ h1 h2)
  refine⟨by rw[hX.block _ hlt hn];exact hc,fun h=>?_⟩;rcases h with h|⟨r,x,h1,h2,_⟩
  ·exact hm h.1
  ·rcases hnew _ ⟨r,x,h1,h2⟩with h3|h3
   ·exact hn h3
   ·omega
theorem b1A{M:Nat->Nat->Prop}{w:World}{xs:List UInt8}{cs:List Value}(hl:cs.length=xs.length*1)(h:∀i (h:i<xs.length),RepC M w .u8 xs[i] ((cs.drop (i*1)).take 1)):cs=Lib.byteCells xs:=by
 apply List.ext_getElem
 ·rw[hl,Nat.mul_one];simp[Lib.byteCells]
 ·intro i h1 h2;have hi:i<xs.length:=by rw[hl]at h1;omega
  have:=(show(cs.drop (i*1)).take 1=[Value.int .u8 (UInt8.toNat xs[i])]from h i hi);rw[Nat.mul_one,List.drop_eq_getElem_cons h1]at this;simp only[List.take_succ_cons,List.take_zero,List.cons.injEq,and_true]at this;rw[this];simp[Lib.byteCells]
theorem c83{M:Nat->Nat->Prop}{w:World}(xs:List UInt8):∀i (h:i<xs.length),RepC M w .u8 xs[i] (((Lib.byteCells xs).drop (i*1)).take 1):=by
 intro i hi;have h1:i<(Lib.byteCells xs).length:=by simpa [Lib.byteCells]using hi
 show((Lib.byteCells xs).drop (i*1)).take 1=[Value.int .u8 (UInt8.toNat xs[i])];rw[Nat.mul_one,List.drop_eq_getElem_cons h1];simp[Lib.byteCells]
def Y9(s w:d3):Option (Int×List UInt8):=if w.length+s.length<=100000000000000 then some ((s.length:Int),w++s)else none
theorem c9L(s:d3):Lib.strCells ⟨s.toArray⟩=Lib.byteCells s:=by simp[Lib.strCells,Lib.byteCells]
theorem c82(a b:d3):Lib.byteCells a++Lib.byteCells b=Lib.byteCells (a++b):=by simp[Lib.byteCells]
theorem d0o:Sound Tryz.prog GW x6 110 ⟨[.box 0 0,V1],[.bld 89 [.row 1],.row 5 .u8 true],[V0,.dead],[.bld 89 [.row 1],.row 5 .u8 true],Int×List UInt8,fun z=>((z.1,(),()),((),()),z.2,()),fun x y=>Y9 x.2.1 y.2.1⟩:=by
 refine⟨Tryz.call110,fun M w g vs x y z hG hB hfr hz=>?_⟩;obtain⟨_,s,_⟩:=x;obtain⟨_,row,_⟩:=y;have hz:Y9 s row=some z:=hz;unfold Y9 at hz;split at hz
 case isFalse=>cases hz
 rename_i hlen;cases hz;have hargs:=hfr.args
 match vs,hargs with
 |[v1,v2],hargs=>
 obtain⟨⟨gx,b,hg0,hgv,rfl⟩,h2,_⟩:=hargs;rw[RepV.str h2];obtain⟨g0',hg0',b',p,us,e0,hb,hp,hus⟩:=hfr.res 0 (.bld 89 [.row 1]) rfl;have hg0:g 0=some gx:=hg0;rw[hg0]at hg0';cases hg0';subst e0;obtain rfl:b'=b:=by simpa [S8]using hgv
 match us,hus with
 |[v],hus=>
 obtain⟨⟨g1,A,n,c,hg1,hv1,hv2⟩,_⟩:=hus;have hg1:g 1=some g1:=hg1;obtain⟨g1',hg1',_,cs,hown,hblk,hlo,hcs⟩:=hfr.res 1 (.row 5 .u8 true row) rfl;rw[hg1]at hg1';cases hg1';rw[<-hv1]at hown hblk;have hlo:g1.lo=0:=hlo;have hown:w.ownsRow 0 5 1 v row.length cs:=hown;have hcs':cs=Lib.byteCells row:=b1A hown.1 hcs;subst hcs';have hne:v.ownBlock≠some b':=fun h=>by
  have:=hfr.inj 0 1 _ _ b' hg0 hg1 rfl (by rw[hblk,h]);cases this
 have hbd:b2G w b' p v (Lib.byteCells row):=⟨hb,by simpa [Lib.byteCells]using hown,hne⟩;refine(d3c hbd hp ⟨s.toArray⟩ (by show(Lib.byteCells row).length+s.length<=_;simp only[Lib.byteCells,List.length_map];omega)).mono fun e w' hq=>?_
 obtain⟨rfl,v',⟨hb',hown',hne'⟩,hX,hnw⟩:=hq;rw[c9L,c82]at hown';obtain⟨A',n',c',hv'⟩:∃A' n' c',v' = .slice A' n' c':=by
  rcases hown'.2 with⟨hv,_⟩|⟨g,cap,cur,hv,_⟩
  ·exact⟨_,_,_,hv⟩
  ·exact⟨_,_,_,hv⟩
 obtain⟨g',hgd⟩:∃g':Gh,g'=fun r=>if r=0 then some ⟨some b',0,S8 b'⟩else if r=1 then some ⟨v'.ownBlock,0,v'⟩else none:=⟨_,rfl⟩
 have h0':g' 0=some ⟨some b',0,S8 b'⟩:=by rw[hgd];rfl
 have h1':g' 1=some ⟨v'.ownBlock,0,v'⟩:=by rw[hgd];rfl
 have hcase:∀r x,g' r=some x->(r=0/\x=⟨some b',0,S8 b'⟩)\/(r=1/\x=⟨v'.ownBlock,0,v'⟩):=fun r x h=>by
  rw[hgd]at h;by_cases h0:r=0
  ·subst h0;exact .inl ⟨rfl,(Option.some.inj h).symm⟩
  ·by_cases h1:r=1
   ·subst h1;exact .inr ⟨rfl,(Option.some.inj h).symm⟩
   ·simp[h0,h1]at h
 have hXg:∀k,(k=b'\/v.ownBlock=some k)->Z4 g k:=fun k hk=>by
  rcases hk with rfl|hk
  ·exact⟨0,_,hg0,rfl⟩
  ·exact⟨1,_,hg1,by rw[hblk,hk]⟩
 have hX':=hX.wider hXg;have hnew:∀k,Z4 g' k->Z4 g k\/w.heap.size<=k:=fun k ⟨r,x,h1,h2⟩=>by
  rcases hcase r x h1 with⟨rfl,rfl⟩|⟨rfl,rfl⟩
  ·injection h2 with h2;exact .inl (hXg k (.inl h2.symm))
  ·rcases hnw k h2 with h3|h3
   ·exact .inl (hXg k (.inr h3))
   ·exact .inr h3
 have hall:∀r x k o,g r=some x->x.blk=some k->M k o:=fun r x k o h1 h2=>by
  have hd:=hfr.dom r x h1;have:r=0\/r=1:=by simp at hd;omega
  rcases this with rfl|rfl
  ·rw[hg0]at h1;cases h1;exact(hfr.chg 0 _ k o hg0 h2).2 (Nat.zero_le _)
  ·rw[hg1]at h1;cases h1;exact(hfr.chg 1 _ k o hg1 h2).2 (by rw[hlo];exact Nat.zero_le _)
 have hst:=Step.made hX' hall hnew;have hb2:b'<w'.heap.size:=z8 hb';have hown2:w'.ownsRow 0 5 1 v' (row++s).length (Lib.byteCells (row++s)):=by simpa [Lib.byteCells]using hown'
 have hv'lt:∀k,v'.ownBlock=some k->k<w'.heap.size:=fun k hk=>(hown2.lt k hk).2
 refine⟨[.int .i64 (s.length:Int),.nilIface],g',rfl,hX',hst,{args:=⟨c9R .i64 _,trivial,trivial⟩,res:=fun r blk hr=>?_,dom:=fun r x h=>?_,inj:=fun r r' x x' k h1 h2 h3 h4=>?_,low:=fun r x k h1 h2=>?_,chg:=fun r x k o h1 h2=>?_,mlt:=fun k o h=>?_,row:=fun r x k h1 h2 h3=>?_},fun r x h1 h2=>?_,hnew⟩
 ·match r,hr with
  |0,hr=>
   obtain rfl:Blk.bld 89 [.row 1]=blk:=Option.some.inj hr;exact⟨_,h0',b',_,[v'],rfl,hb',.inr rfl,⟨⟨_,A',n',c',h1',rfl,hv'⟩,trivial⟩⟩
  |1,hr=>
   obtain rfl:Blk.row 5 .u8 true (row++s)=blk:=Option.some.inj hr;exact⟨_,h1',by decide,_,hown2,rfl,rfl,c83 _⟩
  |n+2,hr=>cases hr
 ·rcases hcase r x h with⟨rfl,_⟩|⟨rfl,_⟩<;>decide
 ·rcases hcase r x h1 with⟨rfl,rfl⟩|⟨rfl,rfl⟩<;>rcases hcase r' x' h2 with⟨rfl,rfl⟩|⟨rfl,rfl⟩
  ·rfl
  ·injection h3 with h3;subst h3;exact absurd h4 hne'
  ·injection h4 with h4;subst h4;exact absurd h3 hne'
  ·rfl
 ·rcases hcase r x h1 with⟨rfl,rfl⟩|⟨rfl,rfl⟩
  ·injection h2 with h2;subst h2;exact⟨(hfr.low 0 _ b' hg0 rfl).1,hb2⟩
  ·refine⟨?_,hv'lt k h2⟩;rcases hnw k h2 with h3|h3
   ·exact(hfr.low 1 _ k hg1 (by rw[hblk,h3])).1
   ·exact Nat.le_trans hB h3
 ·have hlo0:x.lo=0:=by rcases hcase r x h1 with⟨rfl,rfl⟩|⟨rfl,rfl⟩<;>rfl
  rw[hlo0];exact⟨fun _=>Nat.zero_le _,fun _=> .inr ⟨r,x,h1,h2,by rw[hlo0];exact Nat.zero_le _⟩⟩
 ·rcases h with h|⟨r,x,h1,h2,_⟩
  ·exact Nat.lt_of_lt_of_le (hfr.mlt k o h.1) hX.size
  ·rcases hcase r x h1 with⟨rfl,rfl⟩|⟨rfl,rfl⟩
   ·injection h2 with h2;subst h2;exact hb2
   ·exact hv'lt k h2
 ·rcases hcase r x h1 with⟨rfl,rfl⟩|⟨rfl,rfl⟩<;>cases h3
 ·rcases h2 with h2|h2
  ·have hd:=hfr.dom r x h1;have:r=0\/r=1:=by simp at hd;omega
   rcases this with rfl|rfl
   ·rw[hg0]at h1;cases h1;exact h0'
   ·rw[hg1]at h1;cases h1;rw[<-hv1,hv2]at h2;cases h2
  ·cases h2
end
noncomputable section
noncomputable section
variable(N:Nat)
def t8(a:List GStmt):Option Int:=k8 (A4 N N a) fun b=>br (decide (b>50000)) (some (2:Int)) (k8 (s6 N N a 0) fun c=>some c)
abbrev f3I:=E3 [V5] [] [V0] [] (Int) fun z=>((z,()),())
abbrev f3H:AF:=f3I fun x _=>t8 N x.1
theorem c3H:I6 27 (f3H N):=
 N9 h0 (u4 (b7F N N) (u4 (c3v N N) F1)) Tryz.func27 Tryz.call27 (f3H N) (fun x _=>x.1) N
abbrev a3O:=E3 [.v O1] [] [V1] [] (d3) fun z=>((z,()),())
def a5R(_N:Nat)(j6:ρ31)(g:List GExpr)(l:Int)(k0:ρ36)(self:ρ29)(b:Int)(c:List d3):Option d3:=br (decide (b<l)) (k8 (n8 g b) fun a=>k8 (j6 (Ze a)) fun e=>br (Zf (c.length + [e].length) .str) (self (IntKind.i64.wrap (b+1)) (c ++ [e])) none) (k0 c)
def b96(N:Nat)(j6:ρ31)(a:List GExpr)(b:Int)(k0:ρ36):Nat->Int->τ24->Option d3|0,_,_=>none|n+1,c,e=>a5R N j6 a b k0 (b96 N j6 a b k0 n) c e
def a3e(j6:ρ31)(a:List GExpr):Option d3:=b96 N j6 a (a.length:Int) (fun b=>k8 (strings_Join b [44,32]) fun c=>some c) N 0 []
abbrev e77:=E3 [.v (.sl O1)] [] [V1] [] (d3) fun z=>((z,()),())
abbrev c7M(j6:ρ31):AF:=e77 fun x _=>a3e N j6 x.1
abbrev d6D:SV [V1]->BV []->d3:=fun x _=>x.1
def c5W(_N:Nat)(j6:ρ31):FuncId->Option Tmp->Option AF:=fun f _=>P0 [(58,a3O fun x _=>j6 x.1),(59,c3g)] f
theorem d1Y(j6:ρ31)(E5:Sound Tryz.prog GW x6 58 (a3O fun x y=>j6 x.1)):∀f q F,c5W N j6 f q=some F->Sound Tryz.prog GW x6 f F:=fun _ _ _ h=>r9 h (u4 (E5) (u4 (a4M) F1))
def e4l:Nat->Hint:=fun i=>
 match i with
 |0=>⟨[],[3,6,7,8],[1003],[3],[1003],[]⟩
 |_=>o5
abbrev c7L(j6:ρ31):Env:=M5 e4l (c5W N j6) (fun _=>false) (fun _=>false)
abbrev f1R(j6:ρ31):=B4 (c7L N j6) Tryz.f114 (c7M N j6) d6D
noncomputable abbrev e76:Code:=P9 (m8 Tryz.f114) [true,true,false,true,false,false]
abbrev d1X:List (Nat×Sl):=[(3,.row 1003),(6,.v (.sl O1)),(7,V0),(8,V0)]
abbrev b1e:List (Nat×Sb):=[(1003,.row 9 .str false)]
def b42(y:HV b1e):St:=⟨20,[(3,.row 1003)],unH b1e y⟩
def c3f(j6:ρ31):T9 (d3) d1X b1e:=fun K n x y=>b96 N j6 x.2.1 x.2.2.1 (fun a=>K 0 (b42 (a,y.2))) n x.2.2.2.1 y.1
def d6C(j6:ρ31):Nat->Code->St->(Ex->St->Option d3)->Option d3:=fun i c=>
 match i with
 |0=>U4 (c7L N j6) N 20 (c3f N j6) 0 c
 |i=>LpD (c7L N j6) N i c
theorem e13(j6:ρ31):B2 (d6C N j6) (c7L N j6) N (f1R N j6) 0 e76:=
 o0 (c3f N j6) (fun K f x y=>a5R N j6 x.2.1 x.2.2.1 (fun a=>K 0 (b42 (a,y.2))) (fun b c=>f (x.1,x.2.1,x.2.2.1,b,x.2.2.2.2) (c,y.2)) x.2.2.2.1 y.1)
theorem d1Z(j6:ρ31)(E5:Sound Tryz.prog GW x6 58 (a3O fun x y=>j6 x.1)):Sound Tryz.prog GW x6 114 (c7M N j6):=
 a0l (t6 e4l (c5W N j6) _ _ (d1Y N j6 E5)) Tryz.func114 Tryz.call114 (c7M N j6) d6D N (d6C N j6) (P5 (e13 N j6) U6)
def a01(j6:ρ31)(a:Int)(b:GExpr):Option d3:=k8 (O7 N b a) fun e=>br (e) (k8 (n8 b.kids a) fun g=>k8 (j6 g) fun c=>br (decide (([40]:d3).length+c.length<=9223372036854775807)) (br (decide (([40]++c).length+([41]:d3).length<=9223372036854775807)) (some (([40]++c) ++ [41])) none) none) (k8 (n8 b.kids a) fun l=>k8 (j6 l) fun m=>some m)
abbrev e7x:=E3 [V0,.v (.ptr O1)] [] [V1] [] (d3) fun z=>((z,()),())
abbrev d5U(j6:ρ31):AF:=e7x fun x _=>a01 N j6 x.1 x.2.1
def c5H(j6:ρ31):FuncId->Option Tmp->Option AF:=fun f _=>P0 [(58,a3O fun x _=>j6 x.1),(112,e3l N)] f
theorem d1c(j6:ρ31)(E5:Sound Tryz.prog GW x6 58 (a3O fun x y=>j6 x.1)):∀f q F,c5H N j6 f q=some F->Sound Tryz.prog GW x6 f F:=fun _ _ _ h=>r9 h (u4 (E5) (u4 (c4a N) F1))
def e39:Nat->Hint:=fun i=>
 match i with
 |_=>o5
abbrev f1x(j6:ρ31):Env:=M5 e39 (c5H N j6) (fun _=>false) (fun _=>false)
theorem d1d(j6:ρ31)(E5:Sound Tryz.prog GW x6 58 (a3O fun x y=>j6 x.1)):Sound Tryz.prog GW x6 111 (d5U N j6):=
 T5 (f1x N j6) (t6 e39 (c5H N j6) _ _ (d1c N j6 E5)) Tryz.func111 Tryz.call111 (d5U N j6) (fun x _=>x.1) N
def a5J(_N:Nat)(j6:ρ31)(g:GExpr)(l:List d3)(m:Int)(k1:ρ36)(self:ρ29)(a:Int)(c:List d3):Option d3:=br (decide (a<m)) (k8 (n8 l a) fun o=>k8 (n8 g.kids a) fun p=>k8 (J2 o) fun b=>br (decide (b.length+([58,32]:d3).length<=9223372036854775807)) (k8 (j6 p) fun e=>br (decide ((b ++ [58,32]).length+e.length<=9223372036854775807)) (br (Zf (c.length + [(b ++ [58,32])++e].length) .str) (self (IntKind.i64.wrap (a+1)) (c ++ [(b ++ [58,32])++e])) none) none) none) (k1 c)
def b9V(N:Nat)(j6:ρ31)(a:GExpr)(b:List d3)(c:Int)(k1:ρ36):Nat->Int->τ24->Option d3|0,_,_=>none|n+1,e,g=>a5J N j6 a b c k1 (b9V N j6 a b c k1 n) e g
def H7(j6:ρ31)(a:GExpr):Option d3:=br (a.kind==1) (k8 (J2 a.text) fun p=>some p) (br (a.kind==2) (k8 (strconv_Itoa a.number) fun q=>some q) (br (a.kind==3) (some a.text) (br (a.kind==4) (k8 (a3e N j6 a.kids) fun b=>br (decide (([91]:d3).length+b.length<=9223372036854775807)) (br (decide (([91]++b).length+([93]:d3).length<=9223372036854775807)) (some (([91]++b) ++ [93])) none) none) (br (a.kind==5) (k8 (a3e N j6 a.kids) fun c=>br (decide (([102,105,108,101,115,40]:d3).length+c.length<=9223372036854775807)) (br (decide (([102,105,108,101,115,40]++c).length+([41]:d3).length<=9223372036854775807)) (some (([102,105,108,101,115,40]++c) ++ [41])) none) none) (br (a.kind==7) (k8 (a01 N j6 0 (Ze a)) fun e=>br (decide (e.length+([32,43,32]:d3).length<=9223372036854775807)) (k8 (a01 N j6 1 (Ze a)) fun m=>br (decide ((e ++ [32,43,32]).length+m.length<=9223372036854775807)) (some ((e ++ [32,43,32])++m)) none) none) (br (a.kind==8) (k8 (a01 N j6 0 (Ze a)) fun g=>br (decide (g.length+([32,61,61,32]:d3).length<=9223372036854775807)) (k8 (a01 N j6 1 (Ze a)) fun o=>br (decide ((g ++ [32,61,61,32]).length+o.length<=9223372036854775807)) (some ((g ++ [32,61,61,32])++o)) none) none) (b9V N j6 (Ze a) a.keys (a.keys.length:Int) (fun r=>k8 (strings_Join r [44,32]) fun l=>br (decide (([99,104,111,111,115,101,32,123]:d3).length+l.length<=9223372036854775807)) (br (decide (([99,104,111,111,115,101,32,123]++l).length+([125]:d3).length<=9223372036854775807)) (some (([99,104,111,111,115,101,32,123]++l) ++ [125])) none) none) N 0 [])))))))
abbrev e7z:=E3 [.v O1] [] [V1] [] (d3) fun z=>((z,()),())
abbrev d5W(j6:ρ31):AF:=e7z fun x _=>H7 N j6 x.1
abbrev d5X:SV [V1]->BV []->d3:=fun x _=>x.1
def c5I(j6:ρ31):FuncId->Option Tmp->Option AF:=fun f _=>P0 [(58,a3O fun x _=>j6 x.1),(59,c3g),(60,d58 fun x _=>J2 x.1),(111,d5U N j6),(113,d6F fun x _=>strconv_Itoa x.1),(114,c7M N j6)] f
theorem d1f(j6:ρ31)(E5:Sound Tryz.prog GW x6 58 (a3O fun x y=>j6 x.1)):∀f q F,c5I N j6 f q=some F->Sound Tryz.prog GW x6 f F:=fun _ _ _ h=>r9 h (u4 (E5) (u4 (a4M) (u4 (b7t) (u4 (d1d N j6 E5) (u4 (b7H) (u4 (d1Z N j6 E5) F1))))))
def e4a:Nat->Hint:=fun i=>
 match i with
 |1=>⟨[],[1,4,55,56,57],[1004],[4],[1004],[]⟩
 |100021=>o5
 |_=>o5
abbrev c7t(j6:ρ31):Env:=M5 e4a (c5I N j6) (fun _=>false) (fun _=>false)
abbrev f1y(j6:ρ31):=B4 (c7t N j6) Tryz.f58 (d5W N j6) d5X
noncomputable abbrev e7y:Code:=P9 (m8 Tryz.f58) [true,true,true,true,false,true,false,false]
abbrev d1e:List (Nat×Sl):=[(1,.at_ O1),(4,.row 1004),(55,V4),(56,V0),(57,V0)]
abbrev b02:List (Nat×Sb):=[(1004,.row 9 .str false)]
def b4K(y:HV b02):St:=⟨80,[(4,.row 1004)],unH b02 y⟩
def c2R(j6:ρ31):T9 (d3) d1e b02:=fun K n x y=>b9V N j6 x.1 x.2.2.1 x.2.2.2.1 (fun a=>K 1 (b4K (a,y.2))) n x.2.2.2.2.1 y.1
def d5V(j6:ρ31):Nat->Code->St->(Ex->St->Option d3)->Option d3:=fun i c=>
 match i with
 |1=>U4 (c7t N j6) N 80 (c2R N j6) 1 c
 |i=>LpD (c7t N j6) N i c
theorem e1N(j6:ρ31):B2 (d5V N j6) (c7t N j6) N (f1y N j6) 1 e7y:=
 o0 (c2R N j6) (fun K f x y=>a5J N j6 x.1 x.2.2.1 x.2.2.2.1 (fun a=>K 1 (b4K (a,y.2))) (fun b c=>f (x.1,x.2.1,x.2.2.1,x.2.2.2.1,b,x.2.2.2.2.2) (c,y.2)) x.2.2.2.2.1 y.1)
theorem d1g(j6:ρ31)(E5:Sound Tryz.prog GW x6 58 (a3O fun x y=>j6 x.1)):Sound Tryz.prog GW x6 58 (d5W N j6):=
 a0l (t6 e4a (c5I N j6) _ _ (d1f N j6 E5)) Tryz.func58 Tryz.call58 (d5W N j6) d5X N (d5V N j6) (P5 (e1N N j6) U6)
def w8(N:Nat):Nat->GExpr->Option (d3)|0=>fun _=>none|d+1=>H7 N (w8 N d)
theorem b7V(N:Nat):∀d,Sound Tryz.prog GW x6 58 (a3O fun x y=>w8 N d x.1)
 |0=>Sound.never Tryz.call58 (fun _ _=>rfl)
 |d+1=>d1g N (w8 N d) (b7V N d)
def B6(_N:Nat)(c:Int)(a:d3)(e:List UInt8):Option τ23:=k8 (strings_Repeat [32,32] c) fun b=>br (decide (b.length+a.length<=9223372036854775807)) (br (decide ((b++a).length+([10]:d3).length<=9223372036854775807)) (k8 (Y9 ((b++a) ++ [10]) e) fun g=>some g.2) none) none
abbrev f4n(f:SV [.box 0 0,V0,V1]->BV [.bld 89 [.row 1],.row 5 .u8 true]->Option τ23):AF:={ps:=[.box 0 0,V0,V1],bs:=[.bld 89 [.row 1],.row 5 .u8 true],rs:=[],cs:=[.bld 89 [.row 1],.row 5 .u8 true],R:=List UInt8,out:=fun z=>((),((),()),z,()),f:=f}
abbrev e22:AF:=f4n fun x y=>B6 N x.2.1 x.2.2.1 y.2.1
def f7B:Nat->Hint:=fun i=>
 match i with
 |100000=>o5
 |_=>o5
theorem c3W:I6 57 (e22 N):=
 N9 f7B (u4 (b7m) (u4 (d0o) F1)) Tryz.func57 Tryz.call57 (e22 N) (fun _ y=>y.2.1) N
abbrev b72(f:SV [.box 0 0,V0,V5]->BV [.bld 89 [.row 1],.row 5 .u8 true]->Option τ23):AF:={ps:=[.box 0 0,V0,V5],bs:=[.bld 89 [.row 1],.row 5 .u8 true],rs:=[],cs:=[.bld 89 [.row 1],.row 5 .u8 true],R:=List UInt8,out:=fun z=>((),((),()),z,()),f:=f}
end
end
end Go.Proofs.YtckdohagilcloaaGreatDoor
