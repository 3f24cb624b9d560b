/- % -/
import Derived.Test.YtckdohagilcloaaGreatDoorQBm4
import Derived.LaidEqlPtr
import Derived.Laws.Pointers
import Derived.Lib.SliceRun
import Derived.Laws.Tables
namespace Go.Proofs.YtckdohagilcloaaGreatDoor
set_option linter.unusedVariables false
set_option linter.unusedSimpArgs false
open Go Go.RowKit
section
theorem M6{R:Type}[BothC R]{c:Bool}{x y:Option R}{r:R}(h:br c x y=some r):(c=true/\x=some r)\/(c=false/\y=some r):=by
 cases c
 ·exact .inr ⟨rfl,by simpa using h⟩
 ·exact .inl ⟨rfl,by simpa using h⟩
section
variable{P:Program}{df:List Deferred}{G:World->Prop}{B0:Nat}{E:Env}{M:Nat->Nat->Prop}{M0:Nat->Nat->Prop}{w0:World}{gi g:Gh}{st:St}{a:Act}{w:World}
theorem M9{s:Sem Value}{v:Value}(h:s.run P w = .ok v w):(do pure (Next.value (<-s)):Sem Next).run P w = .ok (.value v) w:=by
 simp only[Sem.run_bind,h,Result.andThen_ok,Sem.run_pure]
theorem e3J(x y:UInt8):decide (x<y)=decide ((x.toNat:Int)<y.toNat):=by
 have:(x<y)↔((x.toNat:Int)<y.toNat):=by rw[UInt8.lt_iff_toNat_lt];omega
 simp[this]
theorem e3I(x y:UInt8):decide (x<=y)=decide ((x.toNat:Int)<=y.toNat):=by
 have:(x<=y)↔((x.toNat:Int)<=y.toNat):=by rw[UInt8.le_iff_toNat_le];omega
 simp[this]
theorem e3H(x y:UInt8):(x==y)=((x.toNat:Int)==y.toNat):=by
 by_cases h:x=y
 ·subst h;simp
 ·have:x.toNat≠y.toNat:=fun e=>h (UInt8.toNat.inj e)
  have h1:(x==y)=false:=by simpa using h
  have h2:((x.toNat:Int)==y.toNat)=false:=by simp;omega
  rw[h1,h2]
theorem b2k(n:Int):IntKind.u8.wrap n=n % 256:=by simp[IntKind.wrap,IntKind.signed,IntKind.bits]
theorem e6s(x y:UInt8):IntKind.u8.wrap (x.toNat+y.toNat)=((x+y).toNat:Int):=by
 rw[b2k,UInt8.toNat_add];omega
theorem e6t(x y:UInt8):IntKind.u8.wrap (x.toNat-y.toNat)=((x-y).toNat:Int):=by
 rw[b2k,UInt8.toNat_sub];have:=x.toNat_lt;have:=y.toNat_lt;omega
theorem a8H:∀(t:Ty) (x:t.den) (cs:List Value),a4X t=true->RepC M w t x cs->cs=cellsOf t x
 |.u8,_,_,_,h=>h
 |.int _,_,_,_,h=>h
 |.bool,_,_,_,h=>h
 |.str,_,_,_,h=>h
 |.un,_,_,_,h=>h
 |.pr a b,x,_,hf,h=>by
  simp only[a4X,Bool.and_eq_true]at hf;obtain⟨c1,c2,rfl,h1,h2⟩:=h;rw[a8H a _ _ hf.1 h1,a8H b _ _ hf.2 h2];rfl
 |.sl _,_,_,hf,_=>by cases hf
 |.mp _,_,_,hf,_=>by cases hf
 |.ptr _,_,_,hf,_=>by cases hf
 |.np _,_,_,hf,_=>by cases hf
 |.nl,_,_,hf,_=>by cases hf
 |.clo _ _,_,_,hf,_=>by cases hf
 |.rc _,_,_,hf,_=>by cases hf
theorem c02{t:Ty}{x:t.den}{v:Value}(hf:a4X t=true)(ha:t.isAgg=true)(h:RepV M w t x v):v = .agg (cellsOf t x).toArray:=by
 obtain⟨cs,h1,rfl⟩:=h;rw[a2d ha,a8H t x cs hf h1]
theorem c60{T:TypeId}{t:Ty}(h:TyOk P T t)(ht:a6d t=true):P.underlying T=some (.pointer (P.pointee T)):=by
 obtain⟨d,_,h2,h3⟩:=h;have:∃e,d = .pointer e:=by
  cases t<;>first|(cases ht;done)|skip
  all_goals cases d<;>first|(simp[a2K]at h3;done)|exact⟨_,rfl⟩
 obtain⟨e,rfl⟩:=this;simp[Program.pointee,h2]
theorem c4P(w:World)(t e:TypeId)(a:Option Addr)(n c:Nat)(h:P.underlying t=some (.slice e)):(binOp .neq t (.slice a n c) (.slice none 0 0)).run P w = .ok (.bool (!a.isNone)) w:=by
 have:=Lib.run_eql_slice_nil w t e a n c 0 0 h;simp only[binOp,Sem.run_bind]at this ⊢;cases hq:(Op.equal t (.slice a n c) (.slice none 0 0)).run P w with
 |ok b w1=>
  rw[hq]at this;simp only[Result.andThen_ok,Sem.run_pure]at this ⊢;injection this with h1 h2
  injection h1 with h1
  rw[h1,h2]
 |_=>rw[hq]at this;cases this
theorem b9g{R:Type}[BothC R](hE:EnvOk P G B0 E){op:BinOp}{T:TypeId}{ox oy:Operand}{vx:Value}{p:Option Addr}(hp:vx = .pointer p){k:D->Option R}{r:R}
  (h:(match(E.ty T).map a6d,op with
   |some true,.eql=>k (.v .bool p.isNone)
   |some true,.neq=>k (.v .bool (!p.isNone))
   |_,_=>none)=some r):∃d v,k d=some r/\RepD M w g d v/\∀w':World,True->(do eqGuard op T ox oy vx (.pointer none);binOp op T vx (.pointer none):Sem Value).run P w' = .ok v w':=by
 subst hp;have hu:(E.ty T).map a6d=some true->P.underlying T=some (.pointer (P.pointee T)):=fun e=>by
  cases ht:E.ty T with
  |none=>rw[ht]at e;cases e
  |some t=>rw[ht]at e;exact c60 (hE.ty _ _ ht) (by simpa using e)
 have hg:∀op,eqGuard op T ox oy (.pointer p) (.pointer none)=pure ():=fun op=>by cases op<;>rfl
 split at h
 ·rename_i hT;refine⟨_,_,h,J5 _,fun w' _=>?_⟩;simp only[hg,Sem.run_bind,Sem.run_pure,Result.andThen_ok];exact run_eql_pointer_nil w' T p (hu hT)
 ·rename_i hT;refine⟨_,_,h,J5 _,fun w' _=>?_⟩;simp only[hg,Sem.run_bind,Sem.run_pure,Result.andThen_ok];exact run_neq_pointer_nil w' T p (hu hT)
 ·cases h
theorem c6I(hE:EnvOk P G B0 E){T:TypeId}(ox oy:Operand)(p:Addr)(h:(E.ty T).map a6d=some true)(w:World):
  (do eqGuard .eql T ox oy (.pointer (some p)) (.pointer (some p));binOp .eql T (.pointer (some p)) (.pointer (some p)):Sem Value).run P w = .ok (.bool true) w/\
  (do eqGuard .neq T ox oy (.pointer (some p)) (.pointer (some p));binOp .neq T (.pointer (some p)) (.pointer (some p)):Sem Value).run P w = .ok (.bool false) w:=by
 obtain⟨t,ht,hp⟩:∃t,E.ty T=some t/\a6d t=true:=by
  cases ht:E.ty T with
  |none=>rw[ht]at h;cases h
  |some t=>rw[ht]at h;exact⟨t,rfl,by simpa using h⟩
 have hu:=c60 (hE.ty _ _ ht) hp;obtain⟨j,hj⟩:=Option.isSome_iff_exists.1 (hE.ptr _ _ ht hp);have hg:∀op,eqGuard op T ox oy (.pointer (some p)) (.pointer (some p))=pure ():=fun op=>by cases op<;>rfl
 have h1:=run_eql_ptr_same w p hu hj;refine⟨by simp only[hg,Sem.run_bind,Sem.run_pure,Result.andThen_ok];exact h1,?_⟩;simp only[hg,Sem.run_bind,Sem.run_pure,Result.andThen_ok];simp only[binOp,Sem.run_bind]at h1 ⊢;cases hq:(Op.equal T (.pointer (some p)) (.pointer (some p))).run P w with
 |ok b w1=>
  rw[hq]at h1;simp only[Result.andThen_ok,Sem.run_pure]at h1 ⊢;injection h1 with h1 h2
  injection h1 with h1
  rw[h1,h2];rfl
 |_=>rw[hq]at h1;cases h1
theorem b2S{R:Type}[BothC R](hE:EnvOk P G B0 E){op:BinOp}{T:TypeId}{ox oy:Operand}{dx dy:D}{vx vy:Value}{k:D->Option R}{r:R}(hx:RepD M w g dx vx)(hy:RepD M w g dy vy)
  (h:e5G (E.ty T) (E.cmp T) op dx dy k=some r):∃d v,k d=some r/\RepD M w g d v/\∀w':World,True->(do eqGuard op T ox oy vx vy;binOp op T vx vy:Sem Value).run P w' = .ok v w':=by
 unfold e5G at h;split at h
 ·rename_i i x j y;have hx':=RepD.int hx;have hy':=RepD.int hy;subst hx' hy';split at h
  ·rcases M6 h with⟨hc,h⟩|⟨_,h⟩
   ·have h0:(0:Int)<=y:=of_decide_eq_true hc;refine⟨_,_,h,a0P _ _,fun _ _=>?_⟩;have h1:¬y<(0:Int):=Int.not_lt.2 h0;simp[eqGuard,binOp,Op.shift,f0L,h1]
   ·cases h
  split at h
  ·rename_i e;subst e;split at h
   ·exact⟨_,_,h,a0P _ _,fun _ _=>by simp[eqGuard,binOp,Op.intArith]⟩
   ·exact⟨_,_,h,a0P _ _,fun _ _=>by simp[eqGuard,binOp,Op.intArith]⟩
   ·exact⟨_,_,h,a0P _ _,fun _ _=>by simp[eqGuard,binOp,Op.intArith]⟩
   ·rcases M6 h with⟨_,h⟩|⟨hc,h⟩
    ·cases h
    ·have hy0:¬y=0:=by simpa using hc
     exact⟨_,_,h,a0P _ _,fun _ _=>by simp[eqGuard,binOp,Op.intDiv,hy0]⟩
   ·rcases M6 h with⟨_,h⟩|⟨hc,h⟩
    ·cases h
    ·have hy0:¬y=0:=by simpa using hc
     exact⟨_,_,h,a0P _ _,fun _ _=>by simp[eqGuard,binOp,Op.intDiv,hy0]⟩
   all_goals first
    |(cases h;done)
    |exact⟨_,_,h,J5 _,fun _ _=>by simp[eqGuard,binOp,Op.intCmp]⟩
    |exact⟨_,_,h,a0P _ _,fun _ _=>by simp[eqGuard,binOp,Op.intBits,e91,orI,f09]⟩
  ·cases h
 ·rename_i x y;have hx':=RepD.u8 hx;have hy':=RepD.u8 hy;subst hx' hy';split at h
  ·exact⟨_,_,h,J5 _,fun _ _=>by simp[eqGuard,binOp,Op.intCmp,e3H]⟩
  ·exact⟨_,_,h,J5 _,fun _ _=>by simp[eqGuard,binOp,Op.intCmp,bne,e3H]⟩
  ·exact⟨_,_,h,J5 _,fun _ _=>by rw[e3J];simp[eqGuard,binOp,Op.intCmp]⟩
  ·exact⟨_,_,h,J5 _,fun _ _=>by rw[e3I];simp[eqGuard,binOp,Op.intCmp]⟩
  ·exact⟨_,_,h,J5 _,fun w' _=>by show _=Result.ok (Value.bool (decide (y<x))) w';rw[e3J];simp[eqGuard,binOp,Op.intCmp]⟩
  ·exact⟨_,_,h,J5 _,fun w' _=>by show _=Result.ok (Value.bool (decide (y<=x))) w';rw[e3I];simp[eqGuard,binOp,Op.intCmp]⟩
  ·exact⟨_,_,h,b3D _,fun _ _=>by rw[<-e6t];simp[eqGuard,binOp,Op.intArith]⟩
  ·exact⟨_,_,h,b3D _,fun _ _=>by rw[<-e6s];simp[eqGuard,binOp,Op.intArith]⟩
  ·cases h
 ·rename_i x y;have hx':=RepD.bool hx;have hy':=RepD.bool hy;subst hx' hy';have hu:E.ty T=some .bool->P.underlying T=some .bool:=fun e=>by
   obtain⟨d,_,h2,h3⟩:=hE.ty T .bool e;rw[h2];cases d<;>simp[a2K]at h3 ⊢
  split at h
  ·have he:∀w,(Op.equal T (.bool x) (.bool y)).run P w = .ok (x==y) w:=fun w=>run_equalIn_bool w 9999 T x y (hu (by assumption))
   refine⟨_,_,h,J5 _,fun w' _=>?_⟩;show(do pure (.bool (<-Op.equal T (.bool x) (.bool y))):Sem Value).run P w'=_;simp only[Sem.run_bind,he,Result.andThen_ok,Sem.run_pure]
  ·have he:∀w,(Op.equal T (.bool x) (.bool y)).run P w = .ok (x==y) w:=fun w=>run_equalIn_bool w 9999 T x y (hu (by assumption))
   refine⟨_,_,h,J5 _,fun w' _=>?_⟩;show(do pure (.bool (!(<-Op.equal T (.bool x) (.bool y)))):Sem Value).run P w'=_;simp only[Sem.run_bind,he,Result.andThen_ok,Sem.run_pure,bne]
  ·cases h
 ·rename_i x y;have hx':=RepD.str hx;have hy':=RepD.str hy;subst hx' hy';split at h
  ·exact⟨_,_,h,J5 _,fun _ _=>by simp[eqGuard,binOp,Op.stringOp]⟩
  ·exact⟨_,_,h,J5 _,fun _ _=>by simp[eqGuard,binOp,Op.stringOp]⟩
  ·exact⟨_,_,h,J5 _,fun _ _=>by simp[eqGuard,binOp,Op.stringOp]⟩
  ·exact⟨_,_,h,J5 _,fun _ _=>by simp[eqGuard,binOp,Op.stringOp]⟩
  ·exact⟨_,_,h,J5 _,fun _ _=>by simp[eqGuard,binOp,Op.stringOp]⟩
  ·exact⟨_,_,h,J5 _,fun _ _=>by simp[eqGuard,binOp,Op.stringOp]⟩
  ·rcases M6 h with⟨hc,h⟩|⟨hc,h⟩
   ·refine⟨_,_,h,b0t _,fun w' _=>?_⟩;have hs:(⟨x.toArray⟩:ByteArray).size+(⟨y.toArray⟩:ByteArray).size<=9223372036854775807:=by simpa [ByteArray.size]using of_decide_eq_true hc
    have:=run_string_add_sum (P:=P) (w:=w') ⟨x.toArray⟩ ⟨y.toArray⟩ hs;rw[ByteArray.mk_append_mk]at this;simp[eqGuard,binOp,this]
   ·cases h
  ·cases h
 ·rename_i a b x t' y;split at h
  ·rename_i tc hc;obtain⟨hf,hag,hcmp⟩:=hE.cmp _ _ hc;split at h
   ·rename_i e;obtain⟨e1,e2⟩:=e;subst e1 e2;have hx':=c02 hf hag hx;have hy':=c02 hf hag hy;subst hx' hy';split at h
    ·exact⟨_,_,h,J5 _,fun w' _=>(hcmp x y ox oy w').1⟩
    ·exact⟨_,_,h,J5 _,fun w' _=>(hcmp x y ox oy w').2⟩
    ·cases h
   ·cases h
  ·cases h
 ·rename_i t x;obtain rfl:vy = .pointer none:=hy;have hx':=RepD.v_plain rfl hx;obtain⟨p,hp,hn⟩:∃p,vx = .pointer p/\p.isNone=x.isNone:=by
   cases x with
   |none=>have h2:[vx]=[Value.pointer none]:=hx';exact⟨none,by simpa using h2,rfl⟩
   |some x=>obtain⟨ad,es,e,_⟩:=hx';exact⟨some ad,by simpa using e,rfl⟩
  rw[<-hn]at h;exact b9g hE hp h
 ·obtain rfl:vx = .pointer none:=hx;obtain rfl:vy = .pointer none:=hy;exact b9g (p:=none) hE rfl h
 ·obtain rfl:vy = .pointer none:=hy;obtain⟨ad,cs,e,_⟩:=hx;exact b9g hE e h
 ·obtain rfl:vy = .pointer none:=hy;obtain⟨x,b,_,_,e⟩:=hx;exact b9g hE e h
 ·rename_i r1 o1 r2 o2;split at h
  ·rename_i h1 h2 h3;have e1:=Nat.eq_of_beq_eq_true h2;have e2:=Nat.eq_of_beq_eq_true h3;subst e1 e2;obtain⟨x,b,g1,v1,rfl⟩:=hx;obtain⟨y,b',g2,v2,rfl⟩:=hy;rw[g1]at g2;cases g2;rw[v1]at v2;obtain rfl:b=b':=by simpa [S8]using v2
   exact⟨_,_,h,rfl,fun w' _=>(c6I hE ox oy _ h1 w').1⟩
  ·rename_i h1 h2 h3;have e1:=Nat.eq_of_beq_eq_true h2;have e2:=Nat.eq_of_beq_eq_true h3;subst e1 e2;obtain⟨x,b,g1,v1,rfl⟩:=hx;obtain⟨y,b',g2,v2,rfl⟩:=hy;rw[g1]at g2;cases g2;rw[v1]at v2;obtain rfl:b=b':=by simpa [S8]using v2
   exact⟨_,_,h,rfl,fun w' _=>(c6I hE ox oy _ h1 w').2⟩
  ·cases h
 ·rename_i t xs;obtain rfl:vy = .slice none 0 0:=hy;have hx':=RepD.v_plain rfl hx;obtain⟨A,n,c,e,hA⟩:∃A n c,vx = .slice A n c/\(xs ≠ []->A.isNone=false):=by
   obtain⟨A,c,e,h2,h3,h4⟩:=hx';refine⟨A,xs.length,c,by simpa using e,fun hne=>?_⟩;have hl:0<xs.length:=List.length_pos_iff.2 hne;obtain⟨ad,es,e2,_⟩:=h4 0 hl;rw[e2];rfl
  subst e;have hg:∀op,eqGuard op T ox oy (.slice A n c) (.slice none 0 0)=pure ():=fun op=>by cases op<;>rfl
  have hu:∀t',E.ty T=some (.sl t')->∃e,P.underlying T=some (.slice e):=fun t' ht=>by
   obtain⟨d,_,h2,h3⟩:=hE.ty _ _ ht;cases d<;>simp[a2K]at h3;exact⟨_,h2⟩
  have hcase:∀{kt kf:Option R} {ks:Option R},br xs.isEmpty (q7 kt kf) ks=some r->(A.isNone=true->kt=some r)/\(A.isNone=false->ks=some r\/kf=some r):=fun{kt kf ks} h=>by
   rcases M6 h with⟨hc,h⟩|⟨hc,h⟩
   ·obtain⟨h1,h2⟩:=a7l h;exact⟨fun _=>h1,fun _=> .inr h2⟩
   ·have:=hA (by rintro rfl;cases hc);exact⟨fun h'=>(by rw[this]at h';cases h'),fun _=> .inl h⟩
  split at h
  ·rename_i t' hT;obtain⟨h1,h2⟩:=hcase h;obtain⟨e,hu⟩:=hu _ hT;cases hn:A.isNone with
   |true=>
    refine⟨.bl true,_,h1 hn,rfl,fun w' _=>?_⟩;simp only[hg,Sem.run_bind,Sem.run_pure,Result.andThen_ok];rw[Lib.run_eql_slice_nil w' _ _ A n c 0 0 hu,hn]
   |false=>
    refine⟨.bl false,_,(by rcases h2 hn with h|h<;>exact h),rfl,fun w' _=>?_⟩;simp only[hg,Sem.run_bind,Sem.run_pure,Result.andThen_ok];rw[Lib.run_eql_slice_nil w' _ _ A n c 0 0 hu,hn]
  ·rename_i t' hT;rcases M6 h with⟨hc,h⟩|⟨hc,h⟩
   ·obtain⟨h1,h2⟩:=a7l h;obtain⟨e,hu⟩:=hu _ hT;cases hn:A.isNone with
    |true=>
     refine⟨.bl false,_,h2,rfl,fun w' _=>?_⟩;simp only[hg,Sem.run_bind,Sem.run_pure,Result.andThen_ok];rw[c4P w' _ _ A n c hu,hn];rfl
    |false=>
     refine⟨.bl true,_,h1,rfl,fun w' _=>?_⟩;simp only[hg,Sem.run_bind,Sem.run_pure,Result.andThen_ok];rw[c4P w' _ _ A n c hu,hn];rfl
   ·have hn:=hA (by rintro rfl;cases hc);obtain⟨e,hu⟩:=hu _ hT;refine⟨.bl true,_,h,rfl,fun w' _=>?_⟩;simp only[hg,Sem.run_bind,Sem.run_pure,Result.andThen_ok];rw[c4P w' _ _ A n c hu,hn];rfl
  ·cases h
 ·cases h
theorem TyOk.und{T:TypeId}{t:Ty}(h:TyOk P T t):∃d,P.underlying T=some d/\a2K t d=true:=let ⟨d,_,h2,h3⟩:=h;⟨d,h2,h3⟩
theorem c6Z{T:TypeId}{k:IntKind}(h:TyOk P T (.int k)):P.underlying T=some (.int k):=by
 obtain⟨d,h2,h3⟩:=h.und;rw[h2];cases d<;>simp[a2K]at h3 ⊢;exact h3.symm
theorem b36{T:TypeId}(h:TyOk P T .u8):P.underlying T=some (.int .u8):=by
 obtain⟨d,h2,h3⟩:=h.und;rw[h2];cases d with
 |int k=>cases k<;>simp[a2K]at h3 ⊢
 |_=>simp[a2K]at h3
theorem a3i{T:TypeId}(h:TyOk P T .str):P.underlying T=some .string:=by
 obtain⟨d,h2,h3⟩:=h.und;rw[h2];cases d<;>simp[a2K]at h3 ⊢
theorem b35{T:TypeId}{t:Ty}(h:TyOk P T (.sl t)):∃e,P.underlying T=some (.slice e):=by
 obtain⟨d,h2,h3⟩:=h.und;cases d<;>simp[a2K]at h3;exact⟨_,h2⟩
theorem d4R{T:TypeId}{t:Ty}(h:TyOk P T (.mp t)):∃k e,P.underlying T=some (.map k e):=by
 obtain⟨d,h2,h3⟩:=h.und;cases d<;>simp[a2K]at h3;exact⟨_,_,h2⟩
theorem a9P{T:TypeId}{t:Ty}(h:TyOk P T t):(P.underlying T).isSome=true:=by
 obtain⟨d,h2,_⟩:=h.und;rw[h2];rfl
theorem a3b{S T:TypeId}{j k:IntKind}{x:Int}(hS:(P.underlying S).isSome=true)(hT:P.underlying T=some (.int j)):
  (convert S T (.int k x)).run P w = .ok (.int j (j.wrap x)) w:=by
 obtain⟨d,hd⟩:=Option.isSome_iff_exists.mp hS;simp[convert,run_underlying hd,run_underlying hT,Conv.intToInt]
theorem Sim.lentC(hs:Sim df G B0 M0 w0 gi g st a w){d:D}{v:Value}(h:RepD (u9 M0 g) w g d v){x:List UInt8}(hx:st.lent (.sl .u8) d=some x):∃A c,v = .slice A x.length c/\∀w',KeepR (u9 M0 g) g st.hp w w'->Row w' A (bcs x):=by
 cases d with
 |row r=>
  simp only[St.lent]at hx;split at hx
  ·rename_i e t' xs hb;split at hx
   ·rename_i e';injection e' with e'
    subst e';cases hx;obtain⟨gx,h1,hz,cs,h2,h3,h4,h5⟩:=hs.hp _ _ hb;obtain⟨gx',_,_,_,h6,h7,_⟩:=h;rw[h1]at h6;cases h6;subst h7;have hcs:cs=bcs xs:=by
     have hl:=h2.1;simp only[Ty.sz,Nat.mul_one]at hl;apply List.ext_getElem (by rw[hl,c6l]);intro i h8 h9;have:=h5 i (by omega);have h10:(cs.drop (i*1)).take 1=[.int .u8 (xs[i]'(by omega)).toNat]:=this;rw[Nat.mul_one,List.take_one,List.head?_drop,List.getElem?_eq_getElem h8]at h10;simp only[Option.toList,List.cons.injEq,and_true]at h10;rw[h10];have h11:=c4r xs (k:=i) (by omega);rw[List.getElem?_eq_getElem h9]at h11;injection h11 with h11
     rw[h11]
    obtain⟨A,c,e,_,_,hrow⟩:=Row.of_own' h2;refine⟨A,c,e,fun w' hk=>?_⟩;obtain⟨A2,c2,e2,_,_,hrow2⟩:=Row.of_own' (hk.own hb h1 h3 h2);rw[e]at e2;injection e2 with e3 e4 e5
    exact e3▸hcs▸hrow2
   ·cases hx
  ·cases hx
 |mref r=>
  simp only[St.lent]at hx;split at hx
  ·split at hx
   ·rename_i e;cases e
   ·cases hx
  ·cases hx
 |_=>simp[St.lent]at hx
theorem RepC.bytes{A:Option Addr}{c:Nat}{x:List UInt8}(h:RepC M w (.sl .u8) x [.slice A x.length c]):Row w A (bcs x):=by
 obtain⟨A',c',e,_,_,hr⟩:=h;simp only[List.cons.injEq,Value.slice.injEq,and_true]at e;obtain⟨rfl,_,rfl⟩:=e;intro hne;have h0:0<x.length:=by
  rcases x with _|⟨y,l⟩
  ·exact absurd rfl hne
  ·simp
 obtain⟨ad,_,e,_⟩:=hr 0 h0;subst e;refine⟨ad,rfl,fun j u hu=>?_⟩;have hj:j<x.length:=by
  rcases Nat.lt_or_ge j (bcs x).length with h'|h'
  ·rwa [c6l]at h'
  ·rw[List.getElem?_eq_none h']at hu;cases hu
 obtain⟨ad',es,e,h1,h2⟩:=hr j hj;injection e with e
 subst e;rw[c4r x hj]at hu;injection hu with hu
 have h1':es=[.int .u8 x[j].toNat]:=h1;have:=(h2 0 _ (by rw[h1'];rfl)).1;simp only[Ty.sz,Nat.mul_one]at this;rw[a1Z,Nat.add_zero]at this;rw[this,hu]
theorem e1k(x:Int):((UInt8.ofNat (IntKind.u8.wrap x).toNat).toNat:Int)=IntKind.u8.wrap x:=by rw[b2k];simp;omega
theorem e1l(x:UInt8):IntKind.u8.wrap x.toNat=(x.toNat:Int):=by rw[b2k];have:=x.toNat_lt;omega
theorem c0L{R:Type}[BothC R](hE:EnvOk P G B0 E)(hs:Sim df G B0 M0 w0 gi g st a w){S T:TypeId}{dx:D}{vx:Value}{k:D->Option R}{r:R}(hx:RepD (u9 M0 g) w g dx vx)
  (h:d3p st (E.ty S) (E.el S) (E.ty T) dx k=some r):∃d v,k d=some r/\RepD (u9 M0 g) w g d v/\∀w',KeepR (u9 M0 g) g st.hp w w'->(convert S T vx).run P w' = .ok v w':=by
 unfold d3p at h;split at h
 ·have hx':=RepD.int hx;subst hx';split at h
  ·rename_i hS hT;exact⟨_,_,h,a0P _ _,fun _ _=>a3b (a9P (hE.ty _ _ hS)) (c6Z (hE.ty _ _ hT))⟩
  ·rename_i hS hT;refine⟨_,_,h,b3D _,fun _ _=>?_⟩;rw[a3b (a9P (hE.ty _ _ hS)) (b36 (hE.ty _ _ hT)),e1k]
  ·cases h
 ·have hx':=RepD.u8 hx;subst hx';split at h
  ·rename_i hS hT;exact⟨_,_,h,a0P _ _,fun _ _=>a3b (a9P (hE.ty _ _ hS)) (c6Z (hE.ty _ _ hT))⟩
  ·rename_i hS hT;refine⟨_,_,h,b3D _,fun _ _=>?_⟩;rw[a3b (a9P (hE.ty _ _ hS)) (b36 (hE.ty _ _ hT)),e1l]
  ·cases h
 ·have hx':=RepD.str hx;subst hx';split at h
  ·rename_i hS hT;refine⟨_,_,h,b0t _,fun _ _=>?_⟩;simp[convert,run_underlying (a3i (hE.ty _ _ hS)),run_underlying (a3i (hE.ty _ _ hT))]
  ·cases h
 ·split at h
  ·rename_i hS hT;have fin:∀(x:List UInt8),RepC (u9 M0 g) w (.sl .u8) x [vx]->k (.v .str x)=some r->∃d v,k d=some r/\RepD (u9 M0 g) w g d v/\∀w',KeepR (u9 M0 g) g st.hp w w'->(convert S T vx).run P w' = .ok v w':=by
    intro x hr h;have hr':=hr;obtain⟨A,c,e,_⟩:=hr;simp only[List.cons.injEq,and_true]at e;subst e;obtain⟨he,bytes,⟨hu,_⟩,_⟩:=hE.el _ _ _ hS;exact⟨_,_,h,b0t _,fun w' hE'=>a8k w' S T _ A c x hu (b36 he) (a3i (hE.ty _ _ hT)) (RepC.bytes (RepC.step hE'.step (.sl .u8) _ _ hr'))⟩
   split at h
   ·rename_i x hax;exact fin _ (RepV.plain rfl (hs.dat hx hax)) h
   ·split at h
    ·rename_i x hax;have hrow:=hs.lentC hx hax;obtain⟨A,c,e,hrow⟩:=hrow;subst e;obtain⟨he,bytes,⟨hu,_⟩,_⟩:=hE.el _ _ _ hS;exact⟨_,_,h,b0t _,fun w' hE'=>a8k w' S T _ A c x hu (b36 he) (a3i (hE.ty _ _ hT)) (hrow w' hE')⟩
    ·cases h
  ·cases h
end
end
section
section
variable{P:Program}{df:List Deferred}{G:World->Prop}{B0:Nat}{E:Env}{M:Nat->Nat->Prop}{M0:Nat->Nat->Prop}{w0:World}{gi g:Gh}{st:St}{a:Act}{w:World}
theorem a8Q{T ty:TypeId}{A:Option Addr}{n c:Nat}(h:∃e,P.underlying T=some (.slice e)):(Builtin.len_ #[T] ty #[.slice A n c]).run P w = .ok (.int .i64 n) w:=by
 obtain⟨e,h⟩:=h;simp[Builtin.len_,run_underlying h,goInt]
theorem c4K{R:Type}[BothC R](hE:EnvOk P G B0 E)(hs:Sim df G B0 M0 w0 gi g st a w){T ty:TypeId}{dx:D}{vx:Value}{k:D->Option R}{r:R}(hx:RepD (u9 M0 g) w g dx vx)
  (h:e0Q (E.ty T) st dx k=some r):∃d v,k d=some r/\RepD (u9 M0 g) w g d v/\∀w',KeepR (u9 M0 g) g st.hp w w'->(Builtin.len_ #[T] ty #[vx]).run P w' = .ok v w':=by
 unfold e0Q at h;split at h
 ·rename_i x k;have hx':=RepD.str hx;subst hx';split at h
  ·rename_i hT;refine⟨_,_,h,a0P _ _,fun _ _=>?_⟩;simp only[Builtin.len_,List.getElem?_toArray,List.getElem?_cons_zero,Sem.run_bind,run_underlying (a3i (hE.ty _ _ hT)),Result.andThen_ok,Sem.run_pure,goInt];rfl
  ·cases h
 ·split at h
  ·rename_i hT;obtain⟨A,c,e,_⟩:=RepD.sl hx;simp only[List.cons.injEq,and_true]at e;subst e;exact⟨_,_,h,a0P _ _,fun _ _=>a8Q (b35 (hE.ty _ _ hT))⟩
  ·cases h
 ·split at h
  ·rename_i hT;obtain⟨b,es,c,e,h1,h2,h3,_⟩:=RepD.v_plain rfl hx;simp only[List.cons.injEq,and_true]at e;subst e;obtain⟨k',e',hu⟩:=d4R (hE.ty _ _ hT);refine⟨_,_,h,a0P _ _,fun w' hE'=>?_⟩;have hl:=h3.len;simp only[Array.length_toList]at hl;have h1:=hE'.map b es c h1 h2;simp[Builtin.len_,run_underlying hu,goInt,getObj,Sem.run,h1,hl]
  ·cases h
 ·split at h
  ·rename_i hT hb;obtain⟨gx,h1,_,cs,h2,_⟩:=hs.hp _ _ hb;obtain⟨gx',A,n,c,h6,h7,h8⟩:=hx;rw[h1]at h6;cases h6;obtain⟨A',c',h9,_⟩:=Row.of_own' h2;have h10:vx = .slice A' _ c':=h7.trans h9;subst h10;exact⟨_,_,h,a0P _ _,fun _ _=>a8Q (b35 (hE.ty _ _ hT))⟩
  ·cases h
 ·split at h
  ·rename_i hT;have hx':vx = .slice none 0 0:=hx;subst hx';exact⟨_,_,h,a0P _ _,fun _ _=>a8Q (b35 (hE.ty _ _ hT))⟩
  ·cases h
 ·split at h
  ·rename_i hT hb;obtain⟨x,b,hb1,hb3,hx'⟩:=hx;subst hx';obtain⟨x',hb2,b',es,c,e',h1,h3,_⟩:=hs.hp _ _ hb;rw[hb1]at hb2;cases hb2;subst e';have e':b'=b:=by simpa using hb3
   subst e';obtain⟨k',e',hu⟩:=d4R (hE.ty _ _ hT);refine⟨_,_,h,a0P _ _,fun w' hE'=>?_⟩;have hl:=h3.len;simp only[Array.length_toList]at hl;have h1:=(hE'.nm _ _ _ b' hb hb1 rfl (z8 h1)).trans h1;simp[Builtin.len_,run_underlying hu,goInt,getObj,Sem.run,h1,hl]
  ·cases h
 ·cases h
theorem a4C{α:Type}{xs:List α}{i:Int}{x:α}(h:n8 xs i=some x):0<=i/\∃hi:i.toNat<xs.length,xs[i.toNat]=x:=by
 unfold n8 at h;split at h
 ·rename_i h0;obtain⟨hi,e⟩:=List.getElem?_eq_some_iff.1 h;exact⟨h0,hi,e⟩
 ·cases h
theorem b1G{R:Type}[BothC R](hE:EnvOk P G B0 E){T:TypeId}{s:List UInt8}{q:IntKind}{i:Int}{vx vi:Value}{k:D->Option R}{r:R}(hT:E.ty T=some .str)(hx:RepD M w g (.v .str s) vx)(hi:RepD M w g (.v (.int q) i) vi)
  (h:k8 (n8 s i) (fun c=>k (.v .u8 c))=some r):∃d v,k d=some r/\RepD M w g d v/\∀w':World,True->(Instr.index T vx vi).run P w' = .ok v w':=by
 have hx':=RepD.str hx;have hi':=RepD.int hi;subst hx' hi';obtain⟨c,hc,h⟩:=F9 h;obtain⟨h0,hlt,e⟩:=a4C hc;refine⟨_,_,h,b3D _,fun _ _=>?_⟩;have hg:(⟨s.toArray⟩:ByteArray)[i.toNat]? = some c:=by
  have:i.toNat<(⟨s.toArray⟩:ByteArray).size:=hlt;rw[getElem?_pos (⟨s.toArray⟩:ByteArray) i.toNat this,<-e];rfl
 simp[Instr.index,asIntOf,run_underlying (a3i (hE.ty _ _ hT)),h0,hg]
theorem a9v{R:Type}[BothC R](hE:EnvOk P G B0 E){T:TypeId}{s:List UInt8}{i:UInt8}{vx vi:Value}{k:D->Option R}{r:R}(hT:E.ty T=some .str)(hx:RepD M w g (.v .str s) vx)(hi:RepD M w g (.v .u8 i) vi)
  (h:k8 (n8 s (i.toNat:Int)) (fun c=>k (.v .u8 c))=some r):∃d v,k d=some r/\RepD M w g d v/\∀w':World,True->(Instr.index T vx vi).run P w' = .ok v w':=by
 have hx':=RepD.str hx;have hi':=RepD.u8 hi;subst hx' hi';obtain⟨c,hc,h⟩:=F9 h;obtain⟨h0,hlt,e⟩:=a4C hc;refine⟨_,_,h,b3D _,fun _ _=>?_⟩;have hg:(⟨s.toArray⟩:ByteArray)[((i.toNat:Int)).toNat]? = some c:=by
  have:((i.toNat:Int)).toNat<(⟨s.toArray⟩:ByteArray).size:=hlt;rw[getElem?_pos (⟨s.toArray⟩:ByteArray) ((i.toNat:Int)).toNat this,<-e];rfl
 have hg2:(⟨s.toArray⟩:ByteArray)[i.toNat]? = some c:=hg;simp[Instr.index,asIntOf,run_underlying (a3i (hE.ty _ _ hT)),h0,hg2]
theorem G2{T:TypeId}{t:Ty}(h:TyOk P T t):(sizeOf T).run P w = .ok t.sz w:=by
 obtain⟨d,h1,_⟩:=h;cases hi:P.info? T with
 |none=>rw[hi]at h1;simp at h1
 |some i=>
  rw[hi]at h1;simp only[Option.map_some,Option.some.injEq,Prod.mk.injEq]at h1;simp[sizeOf,typeInfo,hi,h1.1]
theorem a3c{T:TypeId}{t:Ty}(h:TyOk P T t):(isAgg T).run P w = .ok t.isAgg w:=by
 obtain⟨d,h2,h3⟩:=h.und;cases t<;>cases d<;>simp[a2K]at h3<;>simp[isAgg,run_underlying h2,Ty.isAgg]
theorem a6c{R:Type}[BothC R](hE:EnvOk P G B0 E){T e:TypeId}{t:Ty}{l:List t.den}{i:Int}{vx vi:Value}{k:D->Option R}{r:R}(hT:E.el T=some (e,t))(hl:RepV M w (.sl t) l vx)
  (hi:RepD M w g (.v (.int .i64) i) vi) (h:k8 (n8 l i) (fun c=>k (.at_ t c))=some r):∃d v,k d=some r/\RepD M w g d v/\∀w':World,True->(Instr.indexAt T vx vi).run P w' = .ok v w':=by
 have hi':=RepD.int hi;subst hi';obtain⟨c,hc,h⟩:=F9 h;obtain⟨h0,hlt,e1⟩:=a4C hc;obtain⟨A,cp,e2,_,_,hr⟩:=RepV.plain rfl hl;simp only[List.cons.injEq,and_true]at e2;subst e2;obtain⟨ad,es,rfl,h3,h4⟩:=hr i.toNat hlt;obtain⟨hok,bytes,⟨hu,_⟩,_⟩:=hE.el _ _ _ hT;refine⟨_,.pointer (some (ad.add (i.toNat*t.sz))),h,⟨_,es,rfl,by rw[<-e1];exact h3,h4⟩,fun _ _=>?_⟩;have hcond:0<=i/\i<(l.length:Int):=⟨h0,by omega⟩;simp[Instr.indexAt,asIntOf,run_underlying hu,hcond,G2 hok]
theorem a5t{f:(i:RC)->i.den->Nat->(t':Ty)->Option t'.den}(hf:∀i x cs off t' y,RepC M w (.rc i) x cs->f i x off t'=some y->RepC M w t' y ((cs.drop off).take t'.sz)):
  ∀(t:Ty) (x:t.den) (cs:List Value) (off:Nat) (t':Ty) (y:t'.den),RepC M w t x cs->c5f f t x off t'=some y->RepC M w t' y ((cs.drop off).take t'.sz)
 |.pr a b,x,cs,off,t',y,hr,h=>by
  unfold c5f at h;split at h
  ·rename_i e;obtain⟨rfl,rfl⟩:=e;cases h;have:=RepC.len _ _ _ hr;rw[List.drop_zero,List.take_of_length_le (by omega)];exact hr
  ·obtain⟨c1,c2,rfl,h1,h2⟩:=hr;have hl1:=RepC.len _ _ _ h1;split at h
   ·rename_i hlt;have hlt':off<a.sz:=by rw[<-Nat.blt_eq];exact hlt
    have ih:=a5t hf a x.1 c1 off t' y h1 h;have hl:=RepC.len _ _ _ ih;rw[List.length_take,List.length_drop]at hl;have:((c1++c2).drop off).take t'.sz=(c1.drop off).take t'.sz:=by
     rw[List.drop_append_of_le_length (by omega),List.take_append_of_le_length (by rw[List.length_drop];omega)]
    rw[this];exact ih
   ·rename_i hge;have hge':a.sz<=off:=Nat.le_of_not_lt fun h'=>by rw[<-Nat.blt_eq,hge]at h';cases h'
    have ih:=a5t hf b x.2 c2 (off-a.sz) t' y h2 h;have:(c1++c2).drop off=c2.drop (off-a.sz):=by
     rw[List.drop_append,List.drop_eq_nil_of_le (by omega),hl1,List.nil_append]
    rw[this];exact ih
 |.rc i,x,cs,off,t',y,hr,h=>by
  unfold c5f at h;split at h
  ·rename_i e;obtain⟨rfl,rfl⟩:=e;cases h;have:=RepC.len _ _ _ hr;rw[List.drop_zero,List.take_of_length_le (by omega)];exact hr
  ·exact hf i x cs off t' y hr h
 |.u8,x,cs,off,t',y,hr,h=>sub_leaf hr h rfl
 |.int _,x,cs,off,t',y,hr,h=>sub_leaf hr h rfl
 |.bool,x,cs,off,t',y,hr,h=>sub_leaf hr h rfl
 |.str,x,cs,off,t',y,hr,h=>sub_leaf hr h rfl
 |.sl _,x,cs,off,t',y,hr,h=>sub_leaf hr h rfl
 |.un,x,cs,off,t',y,hr,h=>sub_leaf hr h rfl
 |.mp _,x,cs,off,t',y,hr,h=>sub_leaf hr h rfl
 |.ptr _,x,cs,off,t',y,hr,h=>sub_leaf hr h rfl
 |.np _,x,cs,off,t',y,hr,h=>sub_leaf hr h rfl
 |.nl,x,cs,off,t',y,hr,h=>sub_leaf hr h rfl
 |.clo _ _,x,cs,off,t',y,hr,h=>sub_leaf hr h rfl
where
 sub_leaf {t:Ty} {x:t.den} {cs:List Value} {off:Nat} {t':Ty} {y:t'.den} {s:Option t'.den} (hr:RepC M w t x cs) (h:s=some y)
   (hs:s=if h:off=0/\t=t' then some (h.2▸x)else none):RepC M w t' y ((cs.drop off).take t'.sz):=by
  rw[hs]at h;split at h
  ·rename_i e;obtain⟨rfl,rfl⟩:=e;cases h;have:=RepC.len _ _ _ hr;rw[List.drop_zero,List.take_of_length_le (by omega)];exact hr
  ·cases h
theorem b3U:∀(n:Nat) (t:Ty) (x:t.den) (cs:List Value) (off:Nat) (t':Ty) (y:t'.den),RepC M w t x cs->e6p n t x off t'=some y->RepC M w t' y ((cs.drop off).take t'.sz)
 |0=>a5t fun _ _ _ _ _ _ _ h=>by cases h
 |n+1=>a5t fun i x cs off t' y hr h=>b3U n i.body (i.un x) cs off t' y (RepC.rc.1 hr) h
theorem a7A(t:Ty)(x:t.den)(cs:List Value)(off:Nat)(t':Ty)(y:t'.den)(hr:RepC M w t x cs)(h:sub t x off t'=some y):RepC M w t' y ((cs.drop off).take t'.sz):=b3U 2 t x cs off t' y hr h
theorem a5x{f:(i:RC)->i.den->Nat->(t':Ty)->t'.den->Option i.den}(hf:∀i x cs off t' y z ds,RepC M w (.rc i) x cs->RepC M w t' y ds->f i x off t' y=some z->off+t'.sz<=i.sz/\RepC M w (.rc i) z (cs.take off++ds++cs.drop (off+t'.sz))):
  ∀(t:Ty) (x:t.den) (cs:List Value) (off:Nat) (t':Ty) (y:t'.den) (z:t.den) (ds:List Value),RepC M w t x cs->RepC M w t' y ds->c5k f t x off t' y=some z->off+t'.sz<=t.sz/\RepC M w t z (cs.take off++ds++cs.drop (off+t'.sz))
 |.pr a b,x,cs,off,t',y,z,ds,hr,hy,h=>by
  unfold c5k at h;split at h
  ·rename_i e;obtain⟨rfl,rfl⟩:=e;cases h;exact upd_whole hr hy
  ·obtain⟨c1,c2,rfl,h1,h2⟩:=hr;have hl1:=RepC.len _ _ _ h1;have hld:=RepC.len _ _ _ hy;split at h
   ·rename_i hlt;have hlt':off<a.sz:=by rw[<-Nat.blt_eq];exact hlt
    split at h
    ·rename_i z' hz;cases h;obtain⟨h3,ih⟩:=a5x hf a x.1 c1 off t' y z' ds h1 hy hz;refine⟨by simp only[Ty.sz];omega,_,c2,?_,ih,h2⟩;rw[List.take_append_of_le_length (by omega),List.drop_append_of_le_length (by omega)];simp
    ·cases h
   ·rename_i hge;have hge':a.sz<=off:=Nat.le_of_not_lt fun h'=>by rw[<-Nat.blt_eq,hge]at h';cases h'
    split at h
    ·rename_i z' hz;cases h;obtain⟨h3,ih⟩:=a5x hf b x.2 c2 (off-a.sz) t' y z' ds h2 hy hz;refine⟨by simp only[Ty.sz];omega,c1,_,?_,h1,ih⟩;rw[List.take_append,List.take_of_length_le (by omega),List.drop_append,List.drop_eq_nil_of_le (as:=c1) (by omega),hl1,show off+t'.sz-a.sz=off-a.sz+t'.sz by omega];simp
    ·cases h
 |.rc i,x,cs,off,t',y,z,ds,hr,hy,h=>by
  unfold c5k at h;split at h
  ·rename_i e;obtain⟨rfl,rfl⟩:=e;cases h;exact upd_whole hr hy
  ·exact hf i x cs off t' y z ds hr hy h
 |.u8,x,cs,off,t',y,z,ds,hr,hy,h=>upd_leaf hr hy h rfl
 |.int _,x,cs,off,t',y,z,ds,hr,hy,h=>upd_leaf hr hy h rfl
 |.bool,x,cs,off,t',y,z,ds,hr,hy,h=>upd_leaf hr hy h rfl
 |.str,x,cs,off,t',y,z,ds,hr,hy,h=>upd_leaf hr hy h rfl
 |.sl _,x,cs,off,t',y,z,ds,hr,hy,h=>upd_leaf hr hy h rfl
 |.un,x,cs,off,t',y,z,ds,hr,hy,h=>upd_leaf hr hy h rfl
 |.mp _,x,cs,off,t',y,z,ds,hr,hy,h=>upd_leaf hr hy h rfl
 |.ptr _,x,cs,off,t',y,z,ds,hr,hy,h=>upd_leaf hr hy h rfl
 |.np _,x,cs,off,t',y,z,ds,hr,hy,h=>upd_leaf hr hy h rfl
 |.nl,x,cs,off,t',y,z,ds,hr,hy,h=>upd_leaf hr hy h rfl
 |.clo _ _,x,cs,off,t',y,z,ds,hr,hy,h=>upd_leaf hr hy h rfl
where
 upd_whole {t:Ty} {x y:t.den} {cs ds:List Value} (hr:RepC M w t x cs) (hy:RepC M w t y ds):0+t.sz<=t.sz/\RepC M w t y (cs.take 0++ds++cs.drop (0+t.sz)):=by
  have:=RepC.len _ _ _ hr;refine⟨by omega,?_⟩;rw[List.take_zero,List.drop_eq_nil_of_le (by omega),List.nil_append,List.append_nil];exact hy
 upd_leaf {t:Ty} {x z:t.den} {cs ds:List Value} {off:Nat} {t':Ty} {y:t'.den} {s:Option t.den} (hr:RepC M w t x cs) (hy:RepC M w t' y ds) (h:s=some z)
   (hs:s=if h:off=0/\t'=t then some (h.2▸y)else none):off+t'.sz<=t.sz/\RepC M w t z (cs.take off++ds++cs.drop (off+t'.sz)):=by
  rw[hs]at h;split at h
  ·rename_i e;obtain⟨rfl,rfl⟩:=e;cases h;exact upd_whole hr hy
  ·cases h
theorem b37:∀(n:Nat) (t:Ty) (x:t.den) (cs:List Value) (off:Nat) (t':Ty) (y:t'.den) (z:t.den) (ds:List Value),RepC M w t x cs->RepC M w t' y ds->e6v n t x off t' y=some z->off+t'.sz<=t.sz/\RepC M w t z (cs.take off++ds++cs.drop (off+t'.sz))
 |0=>a5x fun _ _ _ _ _ _ _ _ _ _ h=>by cases h
 |n+1=>a5x fun i x cs off t' y z ds hr hy h=>by
  split at h
  ·rename_i z' hz;cases h;obtain⟨h1,h2⟩:=b37 n i.body (i.un x) cs off t' y z' ds (RepC.rc.1 hr) hy hz;rw[RC.sz_body]at h1;exact⟨h1,RepC.rc.2 (by rw[RC.un_mk];exact h2)⟩
  ·cases h
theorem c9Q(t:Ty)(x:t.den)(cs:List Value)(off:Nat)(t':Ty)(y:t'.den)(z:t.den)(ds:List Value)(hr:RepC M w t x cs)(hy:RepC M w t' y ds)(h:upd t x off t' y=some z):
  off+t'.sz<=t.sz/\RepC M w t z (cs.take off++ds++cs.drop (off+t'.sz)):=b37 2 t x cs off t' y z ds hr hy h
theorem a1K{T:TypeId}{f off:Nat}{t:Ty}(hf:c6b P T f off t)(ad:Addr):(Instr.fieldAt T (.pointer (some ad)) f).run P w = .ok (.pointer (some (ad.add off))) w:=by
 obtain⟨fs,fd,h1,h2,h3,h4,h5⟩:=hf;have hne:¬t.sz=0:=by omega
 simp[Instr.fieldAt,run_underlying h1,h2,Instr.sureAddr,fieldPlace,G2 h4,hne,h3]
theorem b9n{T:TypeId}{f off:Nat}{t:Ty}(hf:c6b P T f off t){cs:List Value}(h:off+t.sz<=cs.length):(Instr.field T (.agg cs.toArray) f).run P w = .ok (mkV t ((cs.drop off).take t.sz)) w:=by
 obtain⟨fs,fd,h1,h2,h3,h4,h5⟩:=hf;cases ht:t.isAgg
 ·have hs:=T6 ht;have hlt:off<cs.length:=by omega
  have e1:(cs.drop off).take t.sz=[cs[off]]:=by rw[hs,List.take_one,List.head?_drop,List.getElem?_eq_getElem hlt];rfl
  rw[e1,a1q ht];simp[Instr.field,run_underlying h1,h2,asAgg,part,a3c h4,ht,h3,hlt]
 ·rw[a2d ht];simp[Instr.field,run_underlying h1,h2,asAgg,part,a3c h4,ht,h3,G2 h4,List.extract_eq_take_drop]
theorem a0Z{T:TypeId}{t:Ty}(hT:TyOk P T t){cs:List Value}{ad:Addr}(hl:cs.length=t.sz)(h:∀j u,cs[j]? = some u->w.cell? (ad.add j)=some u):
  (Instr.loadAt T (.pointer (some ad))).run P w = .ok (mkV t cs) w:=by
 cases ht:t.isAgg
 ·rw[T6 ht]at hl
  match cs,hl with
  |[c],_=>
   have h0:=h 0 c rfl;simp only[Addr.add,if_true]at h0;rw[a1q ht];simp[Instr.loadAt,Instr.sureAddr,loadVar,a3c hT,ht,load,Sem.run,h0]
 ·have hlc:=run_loadCells_list (P:=P) w ad cs h;rw[hl]at hlc;rw[a2d ht];simp[Instr.loadAt,Instr.sureAddr,loadVar,a3c hT,ht,G2 hT,hlc]
theorem a4w{b o:Nat}{vs:Array Value}{el:TypeId}(h:w.heap[b]? = some (.cells vs el)):w.cell? ⟨b,o,none⟩=vs[o]?:=by
 simp[World.cell?,h]
theorem J3(hs:Sim df G B0 M0 w0 gi g st a w){t:Ty}(ht:t.isAgg=false){ds:List D}{vs:List Value}{x:t.den}{rest:List D}(ha:All2 (RepD0 (u9 M0 g) w g) ds vs)(h:a1a st t ds=some (x,rest)):
  ∃c1 c2,vs=c1++c2/\RepC (u9 M0 g) w t x c1/\All2 (RepD0 (u9 M0 g) w g) rest c2:=by
 cases ds with
 |nil=>cases h
 |cons d ds=>
  cases vs with
  |nil=>exact ha.elim
  |cons v vs=>
   simp only[a1a]at h;split at h
   ·rename_i y hy;cases h;exact⟨[v],vs,rfl,RepV.plain ht (hs.dat (RepD0.toD ha.1) hy),ha.2⟩
   ·cases h
theorem a2i(hs:Sim df G B0 M0 w0 gi g st a w){f:(i:RC)->List D->Option (i.den×List D)}
  (hf:∀(i:RC) (ds:List D) (vs:List Value) (x:i.den) (rest:List D),All2 (RepD0 (u9 M0 g) w g) ds vs->f i ds=some (x,rest)->∃c1 c2,vs=c1++c2/\RepC (u9 M0 g) w (.rc i) x c1/\All2 (RepD0 (u9 M0 g) w g) rest c2):
  ∀(t:Ty) {ds:List D} {vs:List Value} {x:t.den} {rest:List D},All2 (RepD0 (u9 M0 g) w g) ds vs->a5w st f t ds=some (x,rest)->
  ∃c1 c2,vs=c1++c2/\RepC (u9 M0 g) w t x c1/\All2 (RepD0 (u9 M0 g) w g) rest c2
 |.pr a b,ds,vs,x,rest,ha,h=>by
  simp only[a5w]at h;split at h
  ·rename_i y l h1;split at h
   ·rename_i z l' h2;cases h;obtain⟨c1,c2,rfl,r1,a1⟩:=a2i hs hf a ha h1;obtain⟨c3,c4,rfl,r2,a2⟩:=a2i hs hf b a1 h2;exact⟨c1++c3,c4,(List.append_assoc _ _ _).symm,⟨c1,c3,rfl,r1,r2⟩,a2⟩
   ·cases h
  ·cases h
 |.un,ds,vs,x,rest,ha,h=>by
  simp only[a5w,Option.some.injEq,Prod.mk.injEq]at h;obtain⟨_,rfl⟩:=h;exact⟨[],vs,rfl,rfl,ha⟩
 |.rc i,ds,vs,x,rest,ha,h=>hf i ds vs x rest ha h
 |.u8,_,_,_,_,ha,h=>J3 hs rfl ha h
 |.int _,_,_,_,_,ha,h=>J3 hs rfl ha h
 |.bool,_,_,_,_,ha,h=>J3 hs rfl ha h
 |.str,_,_,_,_,ha,h=>J3 hs rfl ha h
 |.sl _,_,_,_,_,ha,h=>J3 hs rfl ha h
 |.mp _,_,_,_,_,ha,h=>J3 hs rfl ha h
 |.ptr _,_,_,_,_,ha,h=>J3 hs rfl ha h
 |.np _,_,_,_,_,ha,h=>J3 hs rfl ha h
 |.nl,_,_,_,_,ha,h=>J3 hs rfl ha h
 |.clo _ _,_,_,_,_,ha,h=>J3 hs rfl ha h
theorem a8q(hs:Sim df G B0 M0 w0 gi g st a w):∀(n:Nat) (t:Ty) {ds:List D} {vs:List Value} {x:t.den} {rest:List D},All2 (RepD0 (u9 M0 g) w g) ds vs->b9B st n t ds=some (x,rest)->
  ∃c1 c2,vs=c1++c2/\RepC (u9 M0 g) w t x c1/\All2 (RepD0 (u9 M0 g) w g) rest c2
 |0=>a2i hs fun _ _ _ _ _ _ h=>by cases h
 |n+1=>a2i hs fun i ds vs x rest ha h=>by
  split at h
  ·rename_i y l hy;cases h;obtain⟨c1,c2,e,h1,h2⟩:=a8q hs n i.body ha hy;exact⟨c1,c2,e,RepC.rc.2 (by rw[RC.un_mk];exact h1),h2⟩
  ·cases h
theorem a3j(hs:Sim df G B0 M0 w0 gi g st a w)(t:Ty){ds:List D}{vs:List Value}{x:t.den}{rest:List D}(ha:All2 (RepD0 (u9 M0 g) w g) ds vs)(h:b0F st t ds=some (x,rest)):
  ∃c1 c2,vs=c1++c2/\RepC (u9 M0 g) w t x c1/\All2 (RepD0 (u9 M0 g) w g) rest c2:=a8q hs 2 t ha h
theorem Sim.dta(hs:Sim df G B0 M0 w0 gi g st a w){d:D}{v:Value}(h:RepD (u9 M0 g) w g d v){t:Ty}{x:t.den}(hx:st.dta t d=some x):RepV (u9 M0 g) w t x v:=by
 unfold St.dta at hx;split at hx
 ·rename_i l ht;split at hx
  ·rename_i y hu;cases hx;obtain⟨us,e,hus⟩:=h;obtain⟨c1,c2,e1,h3,h4⟩:=a3j hs t hus hu;have hc2:c2=[]:=List.eq_nil_of_length_eq_zero h4.len.symm;subst hc2;rw[List.append_nil]at e1;refine⟨c1,h3,?_⟩;have e:v = .agg us:=e;rw[e,a2d ht,<-e1]
  ·cases hx
 ·exact hs.dat h hx
def dep:Ty->Nat | .pr a b=>max (dep a) (dep b) | .rc .value=>1 | .rc .expr=>1 | .rc .stmt=>2 | .rc .part=>1|_=>0
theorem a9j(i:RC):dep i.body+1<=dep (.rc i):=by cases i<;>decide
theorem b29:∀t:Ty,dep t<=2
 |.pr a b=>by have:=b29 a;have:=b29 b;simp only[dep];omega
 |.rc i=>by cases i<;>decide
 |.u8=>by decide
 |.int _=>Nat.zero_le _
 |.bool=>by decide
 |.str=>by decide
 |.sl _=>Nat.zero_le _
 |.un=>by decide
 |.mp _=>Nat.zero_le _
 |.ptr _=>Nat.zero_le _
 |.np _=>Nat.zero_le _
 |.nl=>Nat.zero_le _
 |.clo _ _=>Nat.zero_le _
theorem a3W{n:Nat}{f:(i:RC)->i.den->List D}(hf:∀i x cs,dep (.rc i)<=n->RepC M w (.rc i) x cs->All2 (RepD0 M w g) (f i x) cs):∀(t:Ty) (x:t.den) (cs:List Value),dep t<=n->RepC M w t x cs->All2 (RepD0 M w g) (b3d f t x) cs
 |.pr a b,x,cs,hd,h=>by
  obtain⟨c1,c2,rfl,h1,h2⟩:=h;simp only[dep]at hd;exact(a3W hf a x.1 c1 (by omega) h1).append (a3W hf b x.2 c2 (by omega) h2)
 |.un,_,_,_,h=>by rw[show _=_ from h];trivial
 |.rc i,x,cs,hd,h=>hf i x cs hd h
 |.u8,x,cs,_,h=>flat1 h rfl rfl
 |.int _,x,cs,_,h=>flat1 h rfl rfl
 |.bool,x,cs,_,h=>flat1 h rfl rfl
 |.str,x,cs,_,h=>flat1 h rfl rfl
 |.sl _,x,cs,_,h=>flat1 h rfl rfl
 |.mp _,x,cs,_,h=>flat1 h rfl rfl
 |.ptr _,x,cs,_,h=>flat1 h rfl rfl
 |.np _,x,cs,_,h=>flat1 h rfl rfl
 |.nl,x,cs,_,h=>flat1 h rfl rfl
 |.clo _ _,x,cs,_,h=>flat1 h rfl rfl
where
 flat1 {t:Ty} {x:t.den} {cs:List Value} (h:RepC M w t x cs) (ht:t.isAgg=false) (hf:b3d f t x=[.v t x]):All2 (RepD0 M w g) (b3d f t x) cs:=by
  have hl:=RepC.len _ _ _ h;rw[T6 ht]at hl
  match cs,hl with
  |[c],_=>rw[hf];exact⟨RepC.toV ht h,trivial⟩
theorem b1F:∀(n:Nat) (t:Ty) (x:t.den) (cs:List Value),dep t<=n->RepC M w t x cs->All2 (RepD0 M w g) (d3C n t x) cs
 |0=>a3W fun i x cs hd _=>by have:=a9j i;omega
 |n+1=>a3W fun i x cs hd h=>b1F n i.body (i.un x) cs (by have:=a9j i;omega) (RepC.rc.1 h)
theorem a8I(t:Ty)(x:t.den)(cs:List Value)(h:RepC M w t x cs):All2 (RepD0 M w g) (flat t x) cs:=b1F 2 t x cs (b29 t) h
theorem a07{f:RC->Option (List D)}{fc:RC->List Value}(hf:∀i ds,f i=some ds->All2 (RepD0 M w g) ds (fc i)):∀(t:Ty) (ds:List D),a1m f t=some ds->All2 (RepD0 M w g) ds (U3 fc t)
 |.pr a b,ds,h=>by
  simp only[a1m]at h;split at h
  ·rename_i x y h1 h2;cases h;exact(a07 hf a x h1).append (a07 hf b y h2)
  ·cases h
 |.un,ds,h=>by cases h;trivial
 |.rc i,ds,h=>hf i ds h
 |.u8,ds,h=>by cases h;exact⟨RepC.toV (t:= .u8) rfl rfl,trivial⟩
 |.int _,ds,h=>by cases h;exact⟨RepC.toV (t:= .int _) rfl rfl,trivial⟩
 |.bool,ds,h=>by cases h;exact⟨RepC.toV (t:= .bool) rfl rfl,trivial⟩
 |.str,ds,h=>by cases h;exact⟨RepC.toV (t:= .str) rfl rfl,trivial⟩
 |.sl _,ds,h=>by cases h;exact⟨rfl,trivial⟩
 |.mp _,ds,h=>by cases h
 |.ptr _,ds,h=>by cases h
 |.np _,ds,h=>by cases h;exact⟨rfl,trivial⟩
 |.nl,ds,h=>by cases h;exact⟨rfl,trivial⟩
 |.clo _ _,ds,h=>by cases h
theorem a6a:∀(n:Nat) (t:Ty) (ds:List D),a4z n t=some ds->All2 (RepD0 M w g) ds (a84 n t)
 |0=>a07 fun _ _ h=>by cases h
 |n+1=>a07 fun i ds h=>a6a n i.body ds h
theorem a10{f:RC->Option (List D)}{fc:RC->List Value}(hf:∀i ds,f i=some ds->All2 (RepD0 M w g) ds (fc i)):∀(t:Ty) (ds:List D),a3u f t=some ds->All2 (RepD0 M w g) ds (U3 fc t)
 |.pr a b,ds,h=>by
  simp only[a3u]at h;split at h
  ·rename_i x y h1 h2;cases h;exact(a10 hf a x h1).append (a10 hf b y h2)
  ·cases h
 |.un,ds,h=>by cases h;trivial
 |.rc i,ds,h=>hf i ds h
 |.u8,ds,h=>by cases h;exact⟨RepC.toV (t:= .u8) rfl rfl,trivial⟩
 |.int _,ds,h=>by cases h;exact⟨RepC.toV (t:= .int _) rfl rfl,trivial⟩
 |.bool,ds,h=>by cases h;exact⟨RepC.toV (t:= .bool) rfl rfl,trivial⟩
 |.str,ds,h=>by cases h;exact⟨RepC.toV (t:= .str) rfl rfl,trivial⟩
 |.sl _,ds,h=>by cases h;exact⟨rfl,trivial⟩
 |.mp _,ds,h=>by cases h;exact⟨trivial,trivial⟩
 |.ptr _,ds,h=>by cases h;exact⟨trivial,trivial⟩
 |.np _,ds,h=>by cases h;exact⟨rfl,trivial⟩
 |.nl,ds,h=>by cases h;exact⟨rfl,trivial⟩
 |.clo _ _,ds,h=>by cases h;exact⟨trivial,trivial⟩
theorem a59(t:Ty)(ds:List D)(h:b0j t=some ds):All2 (RepD0 M w g) ds (I5 t):=
 a10 (fc:=fun i=>a84 1 i.body) (fun i ds h=>a6a 1 i.body ds h) t ds h
theorem a5W{n:Nat}{fc:RC->List Value}(hf:∀i,dep (.rc i)<=n->(fc i).length=i.sz/\∀u∈fc i,u.oneCell'=true):∀t:Ty,dep t<=n->(U3 fc t).length=t.sz/\∀u∈U3 fc t,u.oneCell'=true
 |.pr a b,hd=>by
  simp only[dep]at hd;have h1:=a5W hf a (by omega);have h2:=a5W hf b (by omega);refine⟨by simp only[U3,List.length_append,h1.1,h2.1,Ty.sz],fun u hu=>?_⟩;rcases List.mem_append.1 hu with hu|hu
  ·exact h1.2 u hu
  ·exact h2.2 u hu
 |.un,_=>⟨rfl,by simp[U3]⟩
 |.rc i,hd=>hf i hd
 |.u8,_=>⟨rfl,by simp[U3,Value.oneCell']⟩
 |.int _,_=>⟨rfl,by simp[U3,Value.oneCell']⟩
 |.bool,_=>⟨rfl,by simp[U3,Value.oneCell']⟩
 |.str,_=>⟨rfl,by simp[U3,Value.oneCell']⟩
 |.sl _,_=>⟨rfl,by simp[U3,Value.oneCell']⟩
 |.mp _,_=>⟨rfl,by simp[U3,Value.oneCell']⟩
 |.ptr _,_=>⟨rfl,by simp[U3,Value.oneCell']⟩
 |.np _,_=>⟨rfl,by simp[U3,Value.oneCell']⟩
 |.nl,_=>⟨rfl,by simp[U3,Value.oneCell']⟩
 |.clo _ _,_=>⟨rfl,by simp[U3,Value.oneCell']⟩
theorem a85:∀(n:Nat) (t:Ty),dep t<=n->(a84 n t).length=t.sz/\∀u∈a84 n t,u.oneCell'=true
 |0=>a5W fun i hd=>by have:=a9j i;omega
 |n+1=>a5W fun i hd=>by
  have:=a85 n i.body (by have:=a9j i;omega);rw[RC.sz_body]at this;exact this
theorem a19(t:Ty):(I5 t).length=t.sz:=(a85 2 t (b29 t)).1
theorem b1t(t:Ty):∀u∈I5 t,u.oneCell'=true:=(a85 2 t (b29 t)).2
theorem a4j{f:RC->Option (List D)}{fc:RC->List Value}(hf:∀i ds,f i=some ds->RepC M w (.rc i) i.zero (fc i)):∀(t:Ty) (ds:List D),a1m f t=some ds->RepC M w t (zero t) (U3 fc t)
 |.pr a b,ds,h=>by
  simp only[a1m]at h;split at h
  ·rename_i x y h1 h2;exact⟨_,_,rfl,a4j hf a x h1,a4j hf b y h2⟩
  ·cases h
 |.un,_,_=>rfl
 |.rc i,ds,h=>hf i ds h
 |.u8,_,_=>rfl
 |.int _,_,_=>rfl
 |.bool,_,_=>rfl
 |.str,_,_=>rfl
 |.sl _,_,_=>⟨none,0,rfl,Nat.le_refl _,Nat.zero_le _,fun i hi=>absurd hi (by simp[zero])⟩
 |.mp _,_,h=>by cases h
 |.ptr _,_,h=>by cases h
 |.np _,_,_=>rfl
 |.nl,_,_=>rfl
 |.clo _ _,_,h=>by cases h
theorem b1U:∀(n:Nat) (t:Ty) (ds:List D),a4z n t=some ds->RepC M w t (zero t) (a84 n t)
 |0=>a4j fun _ _ h=>by cases h
 |n+1=>a4j fun i ds h=>by
  have:=b1U n i.body ds h;refine RepC.rc.2 ?_;have e:i.un i.zero=zero i.body:=by cases i<;>rfl
  rw[e];exact this
theorem a86(t:Ty)(ds:List D)(h:a9q t=some ds):RepC M w t (zero t) (I5 t):=b1U 2 t ds h
theorem d4n{base:Nat}{e:TypeId}{sz b n c:Nat}{cs:List Value}(h:w.ownsRow base e sz (.slice (some ⟨b,0,none⟩) n c) n cs){k:Nat}{u:Value}(hu:cs[k]? = some u):w.cell? ⟨b,k,none⟩=some u:=by
 rcases h.2 with⟨e0,_⟩|⟨gg,cap,cur,e0,_,hg,_,_,_,htk⟩
 ·cases e0
 ·simp only[Value.slice.injEq,Option.some.injEq,Addr.mk.injEq]at e0;obtain⟨⟨rfl,_⟩,_⟩:=e0;rw[a4w hg,<-Array.getElem?_toList];rw[<-htk,List.getElem?_take]at hu;split at hu
  ·exact hu
  ·cases hu
theorem c85{cs:List Value}{i sz j:Nat}{u:Value}(h:((cs.drop (i*sz)).take sz)[j]? = some u):cs[i*sz+j]? = some u:=by
 rw[List.getElem?_take]at h;split at h
 ·rwa [List.getElem?_drop]at h
 ·cases h
theorem a6J{R:Type}[BothC R](hE:EnvOk P G B0 E)(hs:Sim df G B0 M0 w0 gi g st a w){T:TypeId}{dx:D}{vx:Value}{k:D->Option R}{r:R}(hx:RepD (u9 M0 g) w g dx vx)(h:c1h E st T dx k=some r):
  ∃d ad v,k d=some r/\vx = .pointer (some ad)/\RepD (u9 M0 g) w g d v/\∀w',KeepR (u9 M0 g) g st.hp w w'->(loadVar T ad).run P w' = .ok v w':=by
 have ofAt:∀{ad:Addr} {v:Value} {w':World},(Instr.loadAt T (.pointer (some ad))).run P w' = .ok v w'->(loadVar T ad).run P w' = .ok v w':=fun h=>by
  simpa [Instr.loadAt,Instr.sureAddr]using h
 unfold c1h at h;split at h
 ·rename_i t t' y hT;split at h
  ·rename_i e';subst e';obtain⟨ad,cs,e,h1,h2⟩:=hx;exact⟨_,ad,_,h,e,show RepV _ _ _ _ _ from⟨cs,h1,rfl⟩,fun w' hE'=>ofAt (a0Z (hE.ty _ _ hT) (RepC.len _ _ _ h1) fun j u hu=>hE'.cell _ _ (h2 j u hu).1 (h2 j u hu).2)⟩
  ·cases h
 ·rename_i t r' off hT;obtain⟨gx,b,hg,hgv,e⟩:=hx;split at h
  ·rename_i cs hb';obtain⟨gx',hg',b',vs,el,e2,h1,h2⟩:=hs.hp _ _ hb';rw[hg]at hg';cases hg';subst e2;have e3:b'=b:=by simpa [S8]using hgv
   subst e3;have hcell:∀w',KeepR (u9 M0 g) g st.hp w w'->∀j,w'.cell? ((⟨b',off,none⟩:Addr).add j)=vs[off+j]?:=fun w' hk j=>by rw[Addr.add_box,a4w ((hk.nm _ _ _ b' hb' hg rfl (z8 h1)).trans h1)]
   cases hagg:t.isAgg
   ·rw[hagg]at h;dsimp only at h;split at h
    ·rename_i d hd;obtain⟨v,hv,hr⟩:=h2.get hd;refine⟨d,_,v,h,e,hr.toD,fun w' hE'=>ofAt ?_⟩;rw[show v=mkV t [v]from(a1q hagg v).symm];refine a0Z (hE.ty _ _ hT) (by rw[T6 hagg];rfl) fun j u hu=>?_
     match j,hu with
     |0,hu=>
      simp only[List.getElem?_cons_zero,Option.some.injEq]at hu;subst hu;rw[hcell w' hE',<-Array.getElem?_toList];exact hv
    ·cases h
   ·rw[hagg]at h;dsimp only at h;split at h
    ·rename_i y rest hu;obtain⟨c1,c2,e2,h3,_⟩:=a3j hs t (h2.drop off) hu;refine⟨_,_,_,h,e,show RepV _ _ _ _ _ from⟨c1,h3,rfl⟩,fun w' hE'=>ofAt ?_⟩;refine a0Z (hE.ty _ _ hT) (RepC.len _ _ _ h3) fun j u hu=>?_
     rw[hcell w' hE',<-Array.getElem?_toList,<-List.getElem?_drop,e2];obtain⟨hj,e3⟩:=List.getElem?_eq_some_iff.1 hu;rw[List.getElem?_append_left hj];exact hu
    ·split at h
     ·rename_i hlen hall;simp only[a1H]at h;have hlen:=Nat.eq_of_beq_eq_true hlen;have h3:All2 (RepD0 (u9 M0 g) w g) ((cs.drop off).take t.sz) ((vs.toList.drop off).take t.sz):=(h2.drop off).take _;have hl:((vs.toList.drop off).take t.sz).length=t.sz:=by rw[<-h3.len];exact hlen
      refine⟨_,_,_,h,e,show RepD _ _ _ (.tup true _) (mkV t ((vs.toList.drop off).take t.sz))from⟨((vs.toList.drop off).take t.sz).toArray,a2d hagg _,?_⟩,fun w' hE'=>ofAt ?_⟩
      ·refine h3.mapL c4R fun d v hd=>?_
       unfold c4R;split
       ·obtain⟨c1,e1,e2⟩:=hd;have e1:c1=[.slice none 0 0]:=e1;rw[e1]at e2;exact e2
       ·exact hd
      ·refine a0Z (hE.ty _ _ hT) hl fun j u hu=>?_
       rw[hcell w' hE',<-Array.getElem?_toList,<-List.getElem?_drop];rw[List.getElem?_take]at hu;split at hu
       ·exact hu
       ·cases hu
     ·cases h
  ·cases h
 ·rename_i t r' z i off hT;obtain⟨gx,b,n,c,hg,hgv,hi0,hin,e⟩:=hx;split at h
  ·rename_i e1 t' xs hb';obtain⟨gx',hg',hz,cs,h2,h3,h4,h5⟩:=hs.hp _ _ hb';rw[hg]at hg';cases hg';split at h
   ·rename_i hzz;have hzz':=Nat.eq_of_beq_eq_true hzz;subst hzz';obtain⟨x,hx1,h⟩:=F9 h;obtain⟨_,hlt,e2⟩:=a4C hx1;split at h
    ·rename_i y hy;have hch:=h5 i.toNat hlt;rw[e2]at hch;have hsub:=a7A _ _ _ _ _ _ hch hy;refine⟨_,_,_,h,e,show RepV _ _ _ _ _ from⟨_,hsub,rfl⟩,fun w' hE'=>ofAt ?_⟩;refine a0Z (hE.ty _ _ hT) (RepC.len _ _ _ hsub) fun j u hu=>?_
     have h2:=hE'.own hb' hg h3 h2;rw[Addr.add_box];have hn:n=xs.length:=by
      obtain⟨A,c',e3,_⟩:=Row.of_own' h2;rw[hgv]at e3;simp only[Value.slice.injEq]at e3;exact e3.2.1
     subst hn;rw[hgv]at h2;refine d4n h2 ?_;have hu':(((cs.drop (i.toNat*t'.sz)).take t'.sz))[off+j]? = some u:=by
      rw[List.getElem?_take]at hu;split at hu
      ·rwa [List.getElem?_drop]at hu
      ·cases hu
     have:=c85 hu';rw[<-Nat.add_assoc]at this;exact this
    ·cases h
   ·cases h
  ·cases h
 ·cases h
theorem c4L{R:Type}[BothC R](hE:EnvOk P G B0 E)(hs:Sim df G B0 M0 w0 gi g st a w){T:TypeId}{x:Operand}{ty:TypeId}{k:D->Option R}{r:R}
  (h:O0 E (.load T x) ty st k=some r):∃d v,k d=some r/\RepD (u9 M0 g) w g d v/\∀w',KeepR (u9 M0 g) g st.hp w w'->(Instr.loadAt T (a.eval x)).run P w' = .ok v w':=by
 have hx:=hs.ev x;simp only[O0]at h;split at h
 ·rename_i t y hd;rw[hd]at hx;obtain⟨y',hy',h9⟩:=F9 h;clear h;subst hy';obtain⟨ad,es,e,h1,h2⟩:=RepD.v_plain (t:= .np t) rfl hx;simp only[List.cons.injEq,and_true]at e;obtain⟨d,ad',v,h3,e',hr,hrun⟩:=a6J hE hs (vx:=a.eval x) (show RepD _ _ _ (.at_ t y') _ from⟨ad,es,e,h1,h2⟩) h9;refine⟨d,v,h3,hr,fun w' hE'=>?_⟩;rw[e'];simp[Instr.loadAt,Instr.sureAddr,hrun w' hE']
 ·obtain⟨d,ad,v,h3,e,hr,hrun⟩:=a6J hE hs hx h;refine⟨d,v,h3,hr,fun w' hE'=>?_⟩;rw[e];simp[Instr.loadAt,Instr.sureAddr,hrun w' hE']
theorem a56{R:Type}[BothC R](hE:EnvOk P G B0 E)(hs:Sim df G B0 M0 w0 gi g st a w){T:TypeId}{x:Operand}{f:Nat}{ty:TypeId}{k:D->Option R}{r:R}
  (h:O0 E (.fieldAddr T x f) ty st k=some r):∃d v,k d=some r/\RepD (u9 M0 g) w g d v/\∀w',(Instr.fieldAt T (a.eval x) f).run P w' = .ok v w':=by
 have hx:=hs.ev x;simp only[O0]at h;split at h
 ·rename_i off t' r' o hT hd;rw[hd]at hx;obtain⟨gx,b,hg,hb,e⟩:=hx;refine⟨_,.pointer (some ⟨b,o+off,none⟩),h,⟨gx,b,hg,hb,rfl⟩,fun _=>?_⟩;rw[e,a1K (hE.fld _ _ _ _ hT),Addr.add_box]
 ·rename_i off t' r' z i o hT hd;rw[hd]at hx;obtain⟨gx,b,n,c,hg,hb,hi0,hin,e⟩:=hx;refine⟨_,.pointer (some ⟨b,i.toNat*z+(o+off),none⟩),h,⟨gx,b,n,c,hg,hb,hi0,hin,rfl⟩,fun _=>?_⟩;rw[e,a1K (hE.fld _ _ _ _ hT),Addr.add_box,Nat.add_assoc]
 ·rename_i off t' t y hT hd;rw[hd]at hx;obtain⟨ad,cs,e,h1,h2⟩:=hx;split at h
  ·rename_i z hz;refine⟨_,.pointer (some (ad.add off)),h,⟨_,_,rfl,a7A _ _ _ _ _ _ h1 hz,(h2.drop off).take _⟩,fun _=>?_⟩;rw[e,a1K (hE.fld _ _ _ _ hT)]
  ·cases h
 ·rename_i off t' t y hT hd;rw[hd]at hx;obtain⟨y',hy',h9⟩:=F9 h;clear h;subst hy';obtain⟨ad,cs,e,h1,h2⟩:=RepD.v_plain (t:= .np t) rfl hx;simp only[List.cons.injEq,and_true]at e;split at h9
  ·rename_i z hz;refine⟨_,.pointer (some (ad.add off)),h9,⟨_,_,rfl,a7A _ _ _ _ _ _ h1 hz,(h2.drop off).take _⟩,fun _=>?_⟩;rw[e,a1K (hE.fld _ _ _ _ hT)]
  ·cases h9
 ·cases h
theorem b1E{R:Type}[BothC R](hE:EnvOk P G B0 E)(hs:Sim df G B0 M0 w0 gi g st a w){T:TypeId}{x:Operand}{f:Nat}{ty:TypeId}{k:D->Option R}{r:R}
  (h:O0 E (.field T x f) ty st k=some r):∃d v,k d=some r/\RepD (u9 M0 g) w g d v/\∀w':World,True->(Instr.field T (a.eval x) f).run P w' = .ok v w':=by
 have hx:=hs.ev x;simp only[O0]at h;split at h
 ·rename_i off t' t y hT hd;rw[hd]at hx;split at h
  ·rename_i z ht hz;obtain⟨cs,h1,e⟩:=hx;have h2:=a7A _ _ _ _ _ _ h1 hz;have hl:=RepC.len _ _ _ h2;rw[List.length_take,List.length_drop]at hl;have hf:=hE.fld _ _ _ _ hT;have h5:0<t'.sz:=by obtain⟨_,_,_,_,_,_,h5⟩:=hf;exact h5
   refine⟨_,_,h,⟨_,h2,rfl⟩,fun _ _=>?_⟩;rw[e,a2d ht];exact b9n hf (by omega)
  ·cases h
 ·cases h
end
end
end Go.Proofs.YtckdohagilcloaaGreatDoor
