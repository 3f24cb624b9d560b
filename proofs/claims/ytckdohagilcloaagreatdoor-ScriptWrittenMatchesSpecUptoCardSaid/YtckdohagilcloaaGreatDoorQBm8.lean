/- % -/
import Derived.Test.YtckdohagilcloaaGreatDoorQBm6
import Derived.Great.BuildSlice
import Derived.Laws.CopyRow
import Derived.Laws.MakeOwn
namespace Go.Proofs.YtckdohagilcloaaGreatDoor
set_option linter.unusedVariables false
set_option linter.unusedSimpArgs false
open Go Go.RowKit
section
section
variable{P:Program}{df:List Deferred}{G:World->Prop}{B0:Nat}{E:Env}{M:Nat->Nat->Prop}{M0:Nat->Nat->Prop}{w0:World}{gi g:Gh}{st:St}{a:Act}{w:World}
theorem a0h{k:IntKind}{i:Int}{y:Nat}{code:BoundsCode}(h0:0<=i)(h1:i<=y):(Instr.sliceBound (.int k i) y code).run P w = .ok i.toNat w:=by
 simp[Instr.sliceBound,asIntOf,h0,h1]
def Bd(v:Option Value)(n dflt:Int):Prop:=(v=none/\n=dflt)\/∃q,v=some (.int q n)
theorem X8{isS:Bool}{len cap:Nat}{lo hi:Option Value}{l h:Int}(hl:Bd lo l 0)(hh:Bd hi h len)(h0:0<=l)(h1:l<=h)(h2:h<=len)(h3:len<=cap):
  (Instr.sliceBounds isS len cap lo hi none).run P w = .ok (l.toNat,h.toNat,cap) w:=by
 rcases hh with⟨rfl,rfl⟩|⟨qh,rfl⟩<;>rcases hl with⟨rfl,rfl⟩|⟨ql,rfl⟩
 ·simp[Instr.sliceBounds]
 ·simp[Instr.sliceBounds,a0h (P:=P) (w:=w) h0 (show l<=(len:Int) by omega)]
 ·simp[Instr.sliceBounds,a0h (P:=P) (w:=w) (show 0<=h by omega) (show h<=(cap:Int) by omega)]
 ·have hb1:=a0h (P:=P) (w:=w) (k:=qh) (code:=if isS then .sliceAcap else .sliceAlen) (show 0<=h by omega) (show h<=(cap:Int) by omega);have hb2:=a0h (P:=P) (w:=w) (k:=ql) (code:= .sliceB) (y:=h.toNat) h0 (show l<=(h.toNat:Int) by omega);simp[Instr.sliceBounds,hb1,hb2]
theorem c1N{α:Type}{xs ys:List α}{lo hi:Int}(h:slc xs lo hi=some ys):0<=lo/\lo<=hi/\hi<=xs.length/\ys=(xs.take hi.toNat).drop lo.toNat:=by
 unfold slc at h;split at h
 ·rename_i hc;cases h;exact⟨hc.1,hc.2.1,hc.2.2,rfl⟩
 ·cases h
theorem d3S(hs:Sim df G B0 M0 w0 gi g st a w){lo:Option Operand}{n:Int}(h:loD st lo=some n):Bd (lo.map a.eval) n 0:=by
 cases lo with
 |none=>cases h;exact .inl ⟨rfl,rfl⟩
 |some o=>
  simp only[loD]at h;split at h
  ·rename_i m hd;cases h;have:=hs.ev o;rw[hd]at this;exact .inr ⟨_,by rw[Option.map_some,RepD.int this]⟩
  ·cases h
theorem d3H(hs:Sim df G B0 M0 w0 gi g st a w){len:Nat}{lo:Option Operand}{n:Int}(h:hiD st len lo=some n):Bd (lo.map a.eval) n len:=by
 cases lo with
 |none=>cases h;exact .inl ⟨rfl,rfl⟩
 |some o=>
  simp only[hiD]at h;split at h
  ·rename_i m hd;cases h;have:=hs.ev o;rw[hd]at this;exact .inr ⟨_,by rw[Option.map_some,RepD.int this]⟩
  ·cases h
theorem b6S{R α:Type}{xs:List α}{lo hi:Option Operand}{mk:List α->D}{k:D->Option R}{r:R}(h:e1c st xs lo hi mk k=some r):
  ∃l h ys,loD st lo=some l/\hiD st xs.length hi=some h/\slc xs l h=some ys/\k (mk ys)=some r:=by
 unfold e1c at h;split at h
 ·rename_i l hh h1 h2;obtain⟨ys,h3,h4⟩:=F9 h;exact⟨l,hh,ys,h1,h2,h3,h4⟩
 ·cases h
theorem a5p{T:TypeId}{d:TypeDesc}{x:Value}{lo hi mx:Option Value}(h:P.underlying T=some d)(hd:∀n e,d ≠ .array n e):(Instr.sliceAt T x lo hi mx).run P w=(Instr.slice T x lo hi mx).run P w:=by
 simp only[Instr.sliceAt,Sem.run_bind,run_underlying h,Result.andThen_ok]
theorem RepC.slice{t:Ty}{xs:List t.den}{A:Option Addr}{n c l h:Nat}(hr:RepC M w (.sl t) xs [.slice A n c])(h1:l<=h)(h2:h<=xs.length):
  RepC M w (.sl t) ((xs.take h).drop l) [.slice (if c=l then A else A.map (·.add (l*t.sz))) (h-l) (c-l)]:=by
 obtain⟨A',c',e,hc1,hc2,hr⟩:=hr;simp only[List.cons.injEq,Value.slice.injEq,and_true]at e;obtain⟨rfl,rfl,rfl⟩:=e;have hlen:((xs.take h).drop l).length=h-l:=by rw[List.length_drop,List.length_take];omega
 refine⟨_,c-l,by rw[hlen],by omega,by omega,fun i hi=>?_⟩;rw[hlen]at hi;have hne:c≠l:=by omega
 rw[if_neg hne];obtain⟨ad,es,rfl,h3,h4⟩:=hr (l+i) (by omega);refine⟨ad.add (l*t.sz),es,rfl,?_,?_⟩
 ·have:((xs.take h).drop l)[i]'(by omega)=xs[l+i]'(by omega):=by simp
  rw[this];exact h3
 ·rw[a1Z,<-Nat.add_mul];exact h4
theorem c1O{R:Type}[BothC R](hE:EnvOk P G B0 E)(hs:Sim df G B0 M0 w0 gi g st a w){T:TypeId}{x:Operand}{lo hi:Option Operand}{ty:TypeId}{k:D->Option R}{r:R}
  (h:O0 E (.slice T x lo hi none) ty st k=some r):∃d v,k d=some r/\RepD (u9 M0 g) w g d v/\∀w':World,True->(Instr.sliceAt T (a.eval x) (lo.map a.eval) (hi.map a.eval) none).run P w' = .ok v w':=by
 have hx:=hs.ev x;simp only[O0]at h;split at h
 ·rename_i s hT hd;rw[hd]at hx;have hx':=RepD.str hx;rw[hx'];obtain⟨l,hh,ys,h1,h2,h3,h4⟩:=b6S h;obtain⟨h5,h6,h7,rfl⟩:=c1N h3;have hu:=a3i (hE.ty _ _ hT);refine⟨_,_,h4,b0t _,fun w' _=>?_⟩;rw[a5p hu (by simp)];have hb:=X8 (P:=P) (w:=w') (isS:=false) (len:=(⟨s.toArray⟩:ByteArray).size) (cap:=(⟨s.toArray⟩:ByteArray).size) (d3S hs h1) (d3H hs h2) h5 h6 h7 (Nat.le_refl _);simp only[Instr.slice,Sem.run_bind,run_underlying hu,Result.andThen_ok,Option.isSome_none,Bool.false_eq_true,if_false,Sem.run_pure,hb];congr 2;apply ByteArray.ext;rw[ByteArray.data_extract];apply Array.ext';rw[Array.toList_extract,List.extract_eq_take_drop];simp only[List.drop_take]
 ·rename_i t hT hd;split at h
  ·rename_i e t' l h1 h2;split at h
   ·rename_i e1;subst e1;have hr:=RepV.plain rfl (hs.dat hx h2);have hr':=hr;obtain⟨A,c,e2,hc1,hc2,_⟩:=hr;simp only[List.cons.injEq,and_true]at e2;obtain⟨lo',hh,ys,h3,h4,h5,h6⟩:=b6S h;obtain⟨h7,h8,h9,rfl⟩:=c1N h5;obtain⟨hok,bytes,⟨hu,_⟩,_⟩:=hE.el _ _ _ h1;rw[e2]at hr' ⊢;refine⟨_,_,h6,RepC.toV rfl (RepC.slice hr' (l:=lo'.toNat) (h:=hh.toNat) (by omega) (by omega)),fun w' _=>?_⟩;rw[a5p hu (by simp)];have hb:=X8 (P:=P) (w:=w') (isS:=true) (len:=l.length) (cap:=c) (d3S hs h3) (d3H hs h4) h7 h8 h9 hc1;simp only[Instr.slice,Sem.run_bind,run_underlying hu,Result.andThen_ok,Sem.run_pure,hb,G2 hok]
   ·cases h
  ·cases h
 ·cases h
theorem b6g(s k:List UInt8):((⟨s.toArray⟩:ByteArray)==⟨k.toArray⟩)=(s==k):=by
 have:((⟨s.toArray⟩:ByteArray)==⟨k.toArray⟩)=(s.toArray==k.toArray):=rfl;rw[this];simp
theorem a6G{e:Ty}(s:List UInt8):∀(m:List (List UInt8×e.den)) (es:List MapEntry) (i:Nat),All2 (fun x y=>y.key = .string ⟨x.1.toArray⟩/\RepV M w e x.2 y.val) m es->
  (a0X m s=none/\Instr.findNow .string (.string ⟨s.toArray⟩) es i=some none)\/
  ∃j x en,a0X m s=some x/\es[j]? = some en/\en.key = .string ⟨s.toArray⟩/\Instr.findNow .string (.string ⟨s.toArray⟩) es i=some (some (i+j,en.val))/\RepV M w e x en.val/\
   ∀z:e.den,a1V m s z=m.set j (s,z)
 |[],[],i,_=> .inl ⟨rfl,rfl⟩
 |(k,y) :: m,en :: es,i,h=>by
  obtain⟨⟨h1,h2⟩,h3⟩:=h;simp only at h1 h2;simp only[a0X,Instr.findNow,h1,Instr.sameNow,b6g];by_cases hk:(s==k)=true
  ·have hk':s=k:=by simpa using hk
   subst hk';exact .inr ⟨0,y,en,by simp,rfl,h1,by simp,h2,fun z=>by simp[a1V]⟩
  ·have hk':(s==k)=false:=by simpa using hk
   simp only[hk',if_false,Bool.false_eq_true];rcases a6G s m es (i+1) h3 with⟨a1,a2⟩|⟨j,x,en',a1,a2,a3,a4,a5,a6⟩
   ·exact .inl ⟨a1,a2⟩
   ·exact .inr ⟨j+1,x,en',a1,a2,a3,by rw[a4,show i+1+j=i+(j+1)from by omega],a5,fun z=>by simp[a1V,hk',a6 z]⟩
 |[],b :: m,_,h=>h.elim
 |a :: l,[],_,h=>h.elim
theorem d3V{α:Type}(m:List (List UInt8×α))(s:List UInt8)(x:α)(h:a0X m s=none):a1V m s x=m ++ [(s,x)]:=by
 induction m with
 |nil=>rfl
 |cons y m ih=>
  obtain⟨k,y⟩:=y;simp only[a0X]at h;split at h
  ·cases h
  ·rename_i hk;simp[a1V,hk,ih h]
theorem a9G{T:TypeId}{s:ByteArray}(b:Bool)(h:P.underlying T=some .string)(n:Nat):(Instr.checkKey b (n+1) T (.string s)).run P w = .ok () w:=by
 simp[Instr.checkKey,run_underlying h]
theorem e5C(hs:Sim df G B0 M0 w0 gi g st a w){e:Ty}{d:D}{v:Value}(hx:RepD (u9 M0 g) w g d v){m:List (List UInt8×e.den)}(h:st.as (.mp e) d=some m):
  ∃b es c,v = .map (some b)/\(∀w',KeepR (u9 M0 g) g st.hp w w'->w'.heap[b]? = some (.map es c))/\All2 (fun x y=>y.key = .string ⟨x.1.toArray⟩/\RepV (u9 M0 g) w e x.2 y.val) m es.toList:=by
 unfold St.as at h;split at h
 ·rename_i x hd;cases h;obtain⟨b,es,c,e1,h1,h2,h3,_⟩:=RepV.plain (t:= .mp e) rfl (hs.dat hx hd);simp only[List.cons.injEq,and_true]at e1;exact⟨b,es,c,e1,fun w' hk=>hk.map b es c h1 h2,h3⟩
 ·cases d with
  |mref r=>
   simp only[St.lent]at h;split at h
   ·rename_i e' m' hb;split at h
    ·rename_i e1;injection e1 with e1
     subst e1;cases h;obtain⟨x,b,h1,h1',rfl⟩:=hx;obtain⟨x',h2,b',es,c,e2,h3,h4,_⟩:=hs.hp _ _ hb;rw[h1]at h2;cases h2;subst e2;have e3:b'=b:=by simpa using h1'
     subst e3;exact⟨b',es,c,rfl,fun w' hk=>(hk.nm _ _ _ b' hb h1 rfl (z8 h3)).trans h3,h4⟩
    ·cases h
   ·cases h
  |row r=>
   simp only[St.lent]at h;split at h
   ·split at h
    ·rename_i e1;cases e1
    ·cases h
   ·cases h
  |_=>simp[St.lent]at h
theorem a5X{T:TypeId}{t:Ty}(h:TyOk P T t):(zeroValue T).run P w = .ok (mkV t (I5 t)) w:=by
 obtain⟨d,h1,_⟩:=h;cases hi:P.info? T with
 |none=>rw[hi]at h1;simp at h1
 |some i=>
  rw[hi]at h1;simp only[Option.map_some,Option.some.injEq,Prod.mk.injEq]at h1;simp[zeroValue,typeInfo,hi,h1.2]
theorem b8X{R:Type}[BothC R](hE:EnvOk P G B0 E)(hs:Sim df G B0 M0 w0 gi g st a w){T:TypeId}{x i:Operand}{ok:Bool}{ty:TypeId}{k:D->Option R}{r:R}
  (h:O0 E (.lookup T x i ok) ty st k=some r):∃d v,k d=some r/\RepD (u9 M0 g) w g d v/\∀w',KeepR (u9 M0 g) g st.hp w w'->(Instr.lookup T (a.eval x) (a.eval i) ok).run P w' = .ok v w':=by
 simp only[O0]at h;split at h
 ·rename_i e hT;split at h
  ·rename_i m hm;obtain⟨b,es,c,hv,h1,h2⟩:=e5C hs (hs.ev x) hm;obtain⟨kt,el,hu,huk,hel⟩:=hE.mp _ _ hT;unfold e3t at h;split at h
   ·rename_i s hk;have hi:=hs.ev i;rw[hk]at hi;have hi':=RepD.str hi;split at h
    ·rename_i z hz;have hz':=a86 (M:=u9 M0 g) (w:=w) e z hz;have hck:=fun w'=>a9G (P:=P) (w:=w') (s:=⟨s.toArray⟩) es.isEmpty huk 9999
     have hgo:∀w',KeepR (u9 M0 g) g st.hp w w'->(getObj b).run P w' = .ok (.map es c) w':=fun w' hE'=>by simp[getObj,Sem.run,h1 w' hE']
     rw[hv,hi'];rcases a6G s m es.toList 0 h2 with⟨a1,a2⟩|⟨j,y,en,a1,a2,a3,a4,a5,a6⟩
     ·have hrun:∀w',KeepR (u9 M0 g) g st.hp w w'->(Instr.lookup T (.map (some b)) (.string ⟨s.toArray⟩) ok).run P w' = .ok (if ok then .tuple #[mkV e (I5 e),.bool false]else mkV e (I5 e)) w':=fun w' hE'=>by
       simp[Instr.lookup,run_underlying hu,hgo w' hE',hck,Instr.findKey,run_underlying huk,a2,a5X hel]
      rw[a1]at h;cases ok
      ·exact⟨.v e (zero e),_,by simpa using h,show RepV (u9 M0 g) w e _ _ from⟨_,hz',rfl⟩,fun w' hE'=>by simpa using hrun w' hE'⟩
      ·exact⟨.tup false [.v e (zero e),.v .bool false],.tuple #[mkV e (I5 e),.bool false],by simpa using h,⟨_,rfl,⟨show RepV (u9 M0 g) w e _ _ from⟨_,hz',rfl⟩,RepC.toV rfl rfl,trivial⟩⟩,fun w' hE'=>by simpa using hrun w' hE'⟩
     ·have hrun:∀w',KeepR (u9 M0 g) g st.hp w w'->(Instr.lookup T (.map (some b)) (.string ⟨s.toArray⟩) ok).run P w' = .ok (if ok then .tuple #[en.val,.bool true]else en.val) w':=fun w' hE'=>by
       simp[Instr.lookup,run_underlying hu,hgo w' hE',hck,Instr.findKey,run_underlying huk,a4]
      rw[a1]at h;cases ok
      ·exact⟨.v e y,_,by simpa using h,show RepV (u9 M0 g) w e _ _ from a5,fun w' hE'=>by simpa using hrun w' hE'⟩
      ·exact⟨.tup false [.v e y,.v .bool true],.tuple #[en.val,.bool true],by simpa using h,⟨_,rfl,⟨show RepV (u9 M0 g) w e _ _ from a5,RepC.toV rfl rfl,trivial⟩⟩,fun w' hE'=>by simpa using hrun w' hE'⟩
    ·cases h
   ·cases h
  ·cases h
 ·cases h
theorem b3h(off:Nat):∀(l:List Value) (j:Nat) (cs:Array Value),off+j+l.length<=cs.size->
  ((l.zipIdx j).foldl (fun(cs:Array Value) (x:Value×Nat)=>cs.setIfInBounds (off+x.2) x.1) cs).toList=cs.toList.take (off+j)++l++cs.toList.drop (off+j+l.length)
 |[],j,cs,_=>by simp
 |v :: l,j,cs,h=>by
  simp only[List.length_cons]at h;have ih:=b3h off l (j+1) (cs.setIfInBounds (off+j) v) (by rw[Array.size_setIfInBounds];omega);simp only[List.zipIdx_cons,List.foldl_cons];rw[ih,Array.toList_setIfInBounds];have hlt:off+j<cs.toList.length:=by rw[Array.length_toList];omega
  have e1:(cs.toList.set (off+j) v).take (off+(j+1))=cs.toList.take (off+j) ++ [v]:=by
   rw[show off+(j+1)=(off+j)+1 from by omega,List.take_succ_eq_append_getElem (by rw[List.length_set];exact hlt),List.getElem_set_self,List.take_set_of_le (Nat.le_refl _)]
  have e2:(cs.toList.set (off+j) v).drop (off+(j+1)+l.length)=cs.toList.drop (off+j+(l.length+1)):=by
   rw[List.drop_set_of_lt (by omega)];congr 1;omega
  rw[e1,e2];simp
theorem b3g(off:Nat)(v cs:Array Value)(h:off+v.size<=cs.size):
  (v.zipIdx.foldl (fun(cs:Array Value) (x:Value×Nat)=>cs.setIfInBounds (off+x.2) x.1) cs).toList=cs.toList.take off++v.toList++cs.toList.drop (off+v.size):=by
 rw[<-Array.foldl_toList,Array.toList_zipIdx];have:=b3h off v.toList 0 cs (by rw[Array.length_toList];omega);rw[this,Array.length_toList,Nat.add_zero]
theorem c1k{α β:Type}{f:α->Option β}:∀{l:List α} {r:List β},l.mapM f=some r->∀{i:Nat} {x:α},l[i]? = some x->∃y,f x=some y/\r[i]? = some y
 |[],r,h,i,x,hx=>by simp at hx
 |z :: l,r,h,i,x,hx=>by
  simp only[List.mapM_cons,Option.bind_eq_bind,Option.pure_def]at h;cases hz:f z with
  |none=>rw[hz]at h;cases h
  |some y=>
   rw[hz]at h;cases hl:l.mapM f with
   |none=>rw[hl]at h;cases h
   |some r'=>
    rw[hl]at h;cases h
    match i,hx with
    |0,hx=>simp at hx;subst hx;exact⟨y,hz,rfl⟩
    |i+1,hx=>simpa using c1k hl (i:=i) (by simpa using hx)
theorem b3C{M:Nat->Nat->Prop}{d:D}{v:Value}(h:RepD M w g d v)(hd:∀b l,d ≠ .tup b l):RepD0 M w g d v:=(RepD.of0 hd).1 h
theorem a61{t:Ty}{d:D}(h:a7z t d=true):∀b l,d ≠ .tup b l:=by rintro b l rfl;cases h
theorem a60{M:Nat->Nat->Prop}{t:Ty}(ht:t.isAgg=false){d:D}{v:Value}(h:RepD M w g d v)(hd:a7z t d=true):v.cells.toList=[v]/\v.oneCell'=true:=by
 have key:v.oneCell'=true->v.cells.toList=[v]/\v.oneCell'=true:=fun h1=>⟨by cases v<;>first|rfl|simp[Value.oneCell']at h1,h1⟩
 refine key ?_;cases d with
 |v t' x=>
  simp only[a7z,decide_eq_true_eq]at hd;subst hd;exact RepC.one _ _ _ (RepD.v_plain ht h) v (by simp)
 |bl b=>have:v = .bool b:=h;subst this;rfl
 |nilS=>have:v = .slice none 0 0:=h;subst this;rfl
 |nilP=>have:v = .pointer none:=h;subst this;rfl
 |row r=>obtain⟨x,A,n,c,_,_,rfl⟩:=h;rfl
 |mref r=>obtain⟨x,b,_,_,rfl⟩:=h;rfl
 |at_ t' x=>obtain⟨ad,cs,rfl,_⟩:=h;rfl
 |box r o=>obtain⟨x,b,_,_,rfl⟩:=h;rfl
 |fnc f l=>obtain⟨cs,rfl,_⟩:=h;rfl
 |_=>cases hd
theorem c4y{M:Nat->Nat->Prop}{d:D}{v:Value}(h:RepD0 M w g d v)(hd:b0h d=true):v.oneCell'=true:=by
 cases d with
 |v t x=>
  have ht:t.isAgg=false:=by simpa [b0h]using hd
  exact RepC.one _ _ _ (RepV.plain ht h) v (by simp)
 |bl b=>have:v = .bool b:=h;subst this;rfl
 |nilS=>have:v = .slice none 0 0:=h;subst this;rfl
 |nilP=>have:v = .pointer none:=h;subst this;rfl
 |row r=>obtain⟨x,A,n,c,_,_,rfl⟩:=h;rfl
 |mref r=>obtain⟨x,b,_,_,rfl⟩:=h;rfl
 |at_ t' x=>obtain⟨ad,cs,rfl,_⟩:=h;rfl
 |box r o=>obtain⟨x,b,_,_,rfl⟩:=h;rfl
 |_=>cases hd
theorem b6l{M:Nat->Nat->Prop}:∀{l:List D} {vs:List Value},All2 (RepD0 M w g) l vs->l.all b0h=true->∀u∈vs,u.oneCell'=true
 |[],[],_,_,u,hu=>by simp at hu
 |d :: l,v :: vs,h,hd,u,hu=>by
  simp only[List.all_cons,Bool.and_eq_true]at hd;rcases List.mem_cons.1 hu with rfl|hu
  ·exact c4y h.1 hd.1
  ·exact b6l h.2 hd.2 u hu
theorem a4W(hs:Sim df G B0 M0 w0 gi g st a w){T:TypeId}(place:Nat->Option (Nat×Nat))(hpl:∀j off t',E.fld T j=some (off,t')->place j=some (off,t'.sz)):
  ∀(ps:List (Nat×Operand)) (ds ds':List D) (vs:Array Value),All2 (RepD0 (u9 M0 g) w g) ds vs.toList->b2X E st T ps ds=some ds'->
  ∃vs',Instr.fill place vs (ps.map fun(i,x)=>(i,a.eval x))=some vs'/\All2 (RepD0 (u9 M0 g) w g) ds' vs'.toList
 |[],ds,ds',vs,ha,h=>by cases h;exact⟨vs,rfl,ha⟩
 |(j,x) :: ps,ds,ds',vs,ha,h=>by
  simp only[b2X]at h;split at h
  ·rename_i off t' hf;cases hag:t'.isAgg
   ·rw[hag]at h;dsimp only at h;split at h
    ·rename_i hso;split at h
     ·rename_i hlt;obtain⟨hc1,hc2⟩:=a60 hag (hs.ev x) hso;have hsz1:=T6 hag;have hlen:ds.length=vs.size:=by simpa using ha.len
      have hcs:(a.eval x).cells.size=1:=by rw[<-Array.length_toList,hc1];rfl
      have hfl:=b3g off (a.eval x).cells vs (by omega);have ha':All2 (RepD0 (u9 M0 g) w g) (ds.set off (nob (st.ev x))) ((a.eval x).cells.zipIdx.foldl (fun(cs:Array Value) (x:Value×Nat)=>cs.setIfInBounds (off+x.2) x.1) vs).toList:=by
       rw[hfl,hc1,hcs];have e1:vs.toList.take off ++ [a.eval x]++vs.toList.drop (off+1)=vs.toList.set off (a.eval x):=by
        rw[List.set_eq_take_append_cons_drop,if_pos (by rw[Array.length_toList];omega)];simp
       rw[e1];exact ha.set off (a5g (b3C (hs.ev x) (a61 hso)))
      obtain⟨vs',h1,h2⟩:=a4W hs place hpl ps _ ds' _ ha' h;refine⟨vs',?_,h2⟩;simp only[List.map_cons,Instr.fill,hpl _ _ _ hf];rw[if_neg (by simp[hcs,hsz1];omega)];exact h1
     ·cases h
    ·cases h
   ·rw[hag]at h;dsimp only at h;split at h
    ·rename_i y hy;split at h
     ·rename_i hle;have hr:=(hs.dta (hs.ev x) hy).cells;have hl:=RepC.len _ _ _ hr;rw[Array.length_toList]at hl;have hlen:ds.length=vs.size:=by simpa using ha.len
      have hfl:=b3g off (a.eval x).cells vs (by omega);have ha':All2 (RepD0 (u9 M0 g) w g) (ds.take off++flat t' y++ds.drop (off+t'.sz)) ((a.eval x).cells.zipIdx.foldl (fun(cs:Array Value) (x:Value×Nat)=>cs.setIfInBounds (off+x.2) x.1) vs).toList:=by
       rw[hfl,hl];exact((ha.take off).append (a8I t' y _ hr)).append (ha.drop _)
      obtain⟨vs',h1,h2⟩:=a4W hs place hpl ps _ ds' _ ha' h;refine⟨vs',?_,h2⟩;simp only[List.map_cons,Instr.fill,hpl _ _ _ hf];rw[if_neg (by simp[hl];omega)];exact h1
     ·cases h
    ·cases h
  ·cases h
theorem c0D{R:Type}[BothC R](hE:EnvOk P G B0 E)(hs:Sim df G B0 M0 w0 gi g st a w){T:TypeId}{ps:Array (Nat×Operand)}{ty:TypeId}{k:D->Option R}{r:R}
  (h:O0 E (.build T ps) ty st k=some r):∃d v,k d=some r/\RepD (u9 M0 g) w g d v/\∀w':World,True->(Instr.build T (ps.map fun(i,x)=>(i,a.eval x))).run P w' = .ok v w':=by
 simp only[O0]at h;split at h
 ·rename_i t hT;cases ht:t.isAgg
  ·rw[ht]at h;cases h
  ·rw[ht]at h;simp only at h;split at h
   ·rename_i ds hz;split at h
    ·rename_i ds' hb;obtain⟨fs,places,h1,h2⟩:=hE.bld _ _ hT ht;have hok:=hE.ty _ _ hT;obtain⟨d,h3,_⟩:=hok;cases hi:P.info? T with
     |none=>rw[hi]at h3;simp at h3
     |some it=>
      rw[hi]at h3;simp only[Option.map_some,Option.some.injEq,Prod.mk.injEq]at h3;have hpl:∀j off t',E.fld T j=some (off,t')->places.toArray[j]? = some (off,t'.sz):=by
       intro j off t' hf;obtain⟨fs',fd,g1,g2,g3,g4,_⟩:=hE.fld _ _ _ _ hf;rw[h1]at g1;injection g1 with g1
       injection g1 with g1
       subst g1;obtain⟨y,g5,g6⟩:=c1k h2 (i:=j) (x:=fd) (by simpa using g2);rw[List.getElem?_toArray,g6];obtain⟨_,g7,_⟩:=g4;cases hi2:P.info? fd.type with
       |none=>rw[hi2]at g7;simp at g7
       |some i2=>
        rw[hi2]at g7 g5;simp only[Option.map_some,Option.some.injEq,Prod.mk.injEq]at g7 g5;rw[<-g5,g3,g7.1]
      have hz0:=a59 (M:=u9 M0 g) (w:=w) (g:=g) t ds hz;obtain⟨vs',h4,h5⟩:=a4W hs (places.toArray[·]?) hpl ps.toList ds ds' (I5 t).toArray hz0 hb;refine⟨_,.agg vs'.toList.toArray,h,⟨vs'.toList.toArray,rfl,by simpa using h5⟩,fun w' _=>?_⟩;refine run_build w' T _ _ ?_;have hbuilt:P.built T (ps.map fun(i,x)=>(i,a.eval x)).toList=Instr.fill (places.toArray[·]?) (mkV t (I5 t)).cells (ps.map fun(i,x)=>(i,a.eval x)).toList:=by
       simp only[Program.built,hi,h1,h3.2,h2]
      rw[hbuilt,a2d ht,Array.toList_map];exact h4
    ·cases h
   ·cases h
 ·cases h
theorem a5z{R:Type}[BothC R](hE:EnvOk P G B0 E)(hs:Sim df G B0 M0 w0 gi g st a w){o:Oper}{k:D->Option R}{r:R}(h:O0 E o.op o.type st k=some r):
  ∃d v,k d=some r/\RepD (u9 M0 g) w g d v/\∀w',KeepR (u9 M0 g) g st.hp w w'->(execOp a.eval o).run P w' = .ok (.value v) w':=by
 cases ho:o.op with
 |move x=>rw[ho]at h;exact⟨_,_,h,hs.ev x,fun _ _=>by simp[execOp,ho]⟩
 |assign x=>rw[ho]at h;exact⟨_,_,h,hs.ev x,fun _ _=>by simp[execOp,ho]⟩
 |nilCheck x=>
  rw[ho]at h;have hx:=hs.ev x;simp only[O0]at h;split at h
  ·rename_i r' off hd;rw[hd]at hx;obtain⟨gx,b,hg,hb,e⟩:=hx;exact⟨_,_,h,⟨gx,b,hg,hb,rfl⟩,fun _ _=>by simp[execOp,ho,e]⟩
  ·rename_i t y hd;rw[hd]at hx;obtain⟨ad,cs,e,h1,h2⟩:=hx;exact⟨_,_,h,⟨ad,cs,rfl,h1,h2⟩,fun _ _=>by simp[execOp,ho,e]⟩
  ·rename_i r' z i off hd;rw[hd]at hx;obtain⟨gx,b,n,c,hg,hb,hi0,hin,e⟩:=hx;exact⟨_,_,h,⟨gx,b,n,c,hg,hb,hi0,hin,rfl⟩,fun _ _=>by simp[execOp,ho,e]⟩
  ·rename_i t y hd;rw[hd]at hx;obtain⟨y',hy',h9⟩:=F9 h;clear h;subst hy';obtain⟨ad,cs,e,h1,h2⟩:=RepD.v_plain (t:= .np t) rfl hx;simp only[List.cons.injEq,and_true]at e;exact⟨_,_,h9,⟨ad,cs,rfl,h1,h2⟩,fun _ _=>by simp[execOp,ho,e]⟩
  ·cases h
 |pick c x y=>
  rw[ho]at h;have hc:=hs.ev c;simp only[O0]at h;split at h
  ·rename_i b hd;rw[hd]at hc;have hc':=RepD.bool hc;rcases M6 h with⟨e,h⟩|⟨e,h⟩
   ·exact⟨_,_,h,hs.ev x,fun _ _=>by simp[execOp,ho,hc',e,asBool]⟩
   ·exact⟨_,_,h,hs.ev y,fun _ _=>by simp[execOp,ho,hc',e,asBool]⟩
  ·rename_i hd;rw[hd]at hc;have hc':a.eval c = .bool true:=hc;exact⟨_,_,h,hs.ev x,fun _ _=>by simp[execOp,ho,hc',asBool]⟩
  ·rename_i hd;rw[hd]at hc;have hc':a.eval c = .bool false:=hc;exact⟨_,_,h,hs.ev y,fun _ _=>by simp[execOp,ho,hc',asBool]⟩
  ·cases h
 |binOp op T x y ty=>
  rw[ho]at h;simp only[O0]at h;obtain⟨d,v,h1,h2,h3⟩:=b2S hE (ox:=x) (oy:=y) (a4J (hs.ev x)) (a4J (hs.ev y)) h;refine⟨d,v,h1,h2,fun w' hE'=>?_⟩;simp only[execOp,ho];exact M9 (h3 w' trivial)
 |unOp op T x=>
  rw[ho]at h;have hx:=hs.ev x;cases op<;>simp only[O0]at h<;>first|(cases h;done)|skip
  split at h
  ·rename_i b hd;rw[hd]at hx;have hx':=RepD.bool hx;exact⟨_,_,h,J5 _,fun _ _=>by simp[execOp,ho,hx',Op.unary]⟩
  ·rename_i b hd;rw[hd]at hx;have hx':a.eval x = .bool b:=hx;exact⟨_,.bool (!b),h,RepD0.toD (d:= .bl !b) rfl,fun _ _=>by simp[execOp,ho,hx',Op.unary]⟩
  ·cases h
 |convert S T x=>
  rw[ho]at h;simp only[O0]at h;obtain⟨d,v,h1,h2,h3⟩:=c0L hE hs (hs.ev x) h;exact⟨d,v,h1,h2,fun w' hE'=>by simp only[execOp,ho];exact M9 (h3 w' hE')⟩
 |index T x i=>
  rw[ho]at h;simp only[O0]at h;split at h
  ·rename_i s i' hT hd hi;have hx:=hs.ev x;have hi2:=hs.ev i;rw[hd]at hx;rw[hi]at hi2;obtain⟨d,v,h1,h2,h3⟩:=b1G hE hT hx hi2 h;exact⟨d,v,h1,h2,fun w' hE'=>by simp only[execOp,ho];exact M9 (h3 w' trivial)⟩
  ·rename_i s i' hT hd hi;have hx:=hs.ev x;have hi2:=hs.ev i;rw[hd]at hx;rw[hi]at hi2;obtain⟨d,v,h1,h2,h3⟩:=a9v hE hT hx hi2 h;exact⟨d,v,h1,h2,fun w' hE'=>by simp only[execOp,ho];exact M9 (h3 w' trivial)⟩
  ·cases h
 |indexAddr T x i=>
  rw[ho]at h;simp only[O0]at h;split at h
  ·rename_i e t i' hT hi;have hi2:=hs.ev i;rw[hi]at hi2;split at h
   ·rename_i l hl;obtain⟨d,v,h1,h2,h3⟩:=a6c hE (g:=g) hT (hs.dat (hs.ev x) hl) hi2 h;exact⟨d,v,h1,h2,fun w' hE'=>by simp only[execOp,ho];exact M9 (h3 w' trivial)⟩
   ·have hx:=hs.ev x;split at h
    ·rename_i r' hd;rw[hd]at hx;split at h
     ·rename_i e1 t' xs hb;split at h
      ·rename_i et;subst et;rcases M6 h with⟨hc,h⟩|⟨_,h⟩
       ·have hc':=of_decide_eq_true hc;obtain⟨gx,hg,hz,cs,h2,h3,h4,h5⟩:=hs.hp _ _ hb;obtain⟨gx',A,n,c,h6,h7,h8⟩:=hx;rw[hg]at h6;cases h6;obtain⟨A',c',e3,hlc,hcm,hrow⟩:=Row.of_own' h2;have hpos:0<xs.length:=Int.ofNat_lt.1 (Int.lt_of_le_of_lt hc'.1 hc'.2);obtain⟨b,hv⟩:∃b,gx.v = .slice (some ⟨b,0,none⟩) xs.length c':=by
         rcases h2.2 with⟨_,e9⟩|⟨gg,cap,cur,e0,_⟩
         ·exact absurd e9 (Nat.ne_of_gt hpos)
         ·rw[e0]at e3;simp only[Value.slice.injEq,true_and]at e3;obtain⟨_,rfl⟩:=e3;exact⟨gg,e0⟩
        have hi':=RepD.int hi2;obtain⟨hok,bytes,⟨hu,_⟩,_⟩:=hE.el _ _ _ hT;refine⟨_,.pointer (some ⟨b,i'.toNat*t'.sz+0,none⟩),h,⟨gx,b,xs.length,c',hg,hv,hc'.1,hc'.2,rfl⟩,fun w' _=>?_⟩;have hxv:a.eval x = .slice (some ⟨b,0,none⟩) xs.length c':=h7.trans hv;have hcond:0<=i'/\i'<(xs.length:Int):=hc';have:=Addr.add_box b 0 (i'.toNat*t'.sz);rw[Nat.zero_add]at this;simp[execOp,ho,hxv,hi',Instr.indexAt,asIntOf,run_underlying hu,hcond,G2 hok,this]
       ·cases h
      ·cases h
     ·cases h
    ·cases h
  ·cases h
 |fieldAddr T x f=>
  rw[ho]at h;obtain⟨d,v,h1,h2,h3⟩:=a56 hE hs h;exact⟨d,v,h1,h2,fun w' _=>by simp only[execOp,ho];exact M9 (h3 w')⟩
 |field T x f=>
  rw[ho]at h;obtain⟨d,v,h1,h2,h3⟩:=b1E hE hs h;exact⟨d,v,h1,h2,fun w' hE'=>by simp only[execOp,ho];exact M9 (h3 w' trivial)⟩
 |load T x=>
  rw[ho]at h;obtain⟨d,v,h1,h2,h3⟩:=c4L hE hs h;exact⟨d,v,h1,h2,fun w' hE'=>by simp only[execOp,ho];exact M9 (h3 w' hE')⟩
 |slice T x lo hi mx=>
  rw[ho]at h;cases mx with
  |some m=>simp[O0]at h
  |none=>
   obtain⟨d,v,h1,h2,h3⟩:=c1O hE hs h;exact⟨d,v,h1,h2,fun w' hE'=>by simp only[execOp,ho];exact M9 (h3 w' trivial)⟩
 |lookup T x i ok=>
  rw[ho]at h;obtain⟨d,v,h1,h2,h3⟩:=b8X hE hs h;exact⟨d,v,h1,h2,fun w' hE'=>by simp only[execOp,ho];exact M9 (h3 w' hE')⟩
 |extract x i=>
  rw[ho]at h;have hx:=hs.ev x;simp only[O0]at h;split at h
  ·rename_i l hd;rw[hd]at hx;obtain⟨vs,e,ha⟩:=hx;split at h
   ·rename_i d hdl;obtain⟨v,hv,hr⟩:=ha.get hdl;rw[Array.getElem?_toList]at hv;exact⟨d,v,h,hr.toD,fun _ _=>by simp[execOp,ho,e,Instr.extract,hv]⟩
   ·cases h
  ·cases h
 |build T ps=>
  rw[ho]at h;obtain⟨d,v,h1,h2,h3⟩:=c0D hE hs h;exact⟨d,v,h1,h2,fun w' hE'=>by simp only[execOp,ho];exact M9 (h3 w' trivial)⟩
 |call c=>
  rw[ho]at h;simp only[O0]at h;split at h
  ·rename_i x hc ha;obtain⟨T,hT⟩:∃T,c.argTypes[0]? = some T:=by
    cases hh:c.argTypes[0]? with
    |some T=>exact⟨T,rfl⟩
    |none=>
     rw[hh]at h;simp only[Option.bind_none,e0Q]at h;split at h<;>first|(cases h;done)|skip
     all_goals simp at h
   rw[hT]at h;obtain⟨d,v,h1,h2,h3⟩:=c4K hE (ty:=o.type) hs (hs.ev x) h;refine⟨d,v,h1,h2,fun w' hE'=>?_⟩;have hargs:c.args = #[x]:=by
    apply Array.ext';simpa using ha
   have hl:Builtin.len_ c.argTypes o.type #[a.eval x]=Builtin.len_ #[T] o.type #[a.eval x]:=by
    simp only[Builtin.len_,hT,List.getElem?_toArray,List.getElem?_cons_zero]
   simp only[execOp,ho,resolve,hc,hargs,invoke,builtin,Sem.run_bind,Sem.run_pure,Result.andThen_ok,List.map_toArray,List.map_cons,List.map_nil,hl,h3 w' hE']
  ·cases h
 |_=>rw[ho]at h;simp[O0]at h
theorem c5m{R:Type}[BothC R](hE:EnvOk P G B0 E)(hs:Sim df G B0 M0 w0 gi g st a w){o:Oper}{k:D->Option R}{r:R}(hk:b0C o.op=true)(h:O0 E o.op o.type st k=some r):
  ∃d v,k d=some r/\RepD (u9 M0 g) w g d v/\∀w',True->(execOp a.eval o).run P w' = .ok (.value v) w':=by
 cases ho:o.op with
 |move x=>rw[ho]at h;exact⟨_,_,h,hs.ev x,fun _ _=>by simp[execOp,ho]⟩
 |assign x=>rw[ho]at h;exact⟨_,_,h,hs.ev x,fun _ _=>by simp[execOp,ho]⟩
 |nilCheck x=>
  rw[ho]at h;have hx:=hs.ev x;simp only[O0]at h;split at h
  ·rename_i r' off hd;rw[hd]at hx;obtain⟨gx,b,hg,hb,e⟩:=hx;exact⟨_,_,h,⟨gx,b,hg,hb,rfl⟩,fun _ _=>by simp[execOp,ho,e]⟩
  ·rename_i t y hd;rw[hd]at hx;obtain⟨ad,cs,e,h1,h2⟩:=hx;exact⟨_,_,h,⟨ad,cs,rfl,h1,h2⟩,fun _ _=>by simp[execOp,ho,e]⟩
  ·rename_i r' z i off hd;rw[hd]at hx;obtain⟨gx,b,n,c,hg,hb,hi0,hin,e⟩:=hx;exact⟨_,_,h,⟨gx,b,n,c,hg,hb,hi0,hin,rfl⟩,fun _ _=>by simp[execOp,ho,e]⟩
  ·rename_i t y hd;rw[hd]at hx;obtain⟨y',hy',h9⟩:=F9 h;clear h;subst hy';obtain⟨ad,cs,e,h1,h2⟩:=RepD.v_plain (t:= .np t) rfl hx;simp only[List.cons.injEq,and_true]at e;exact⟨_,_,h9,⟨ad,cs,rfl,h1,h2⟩,fun _ _=>by simp[execOp,ho,e]⟩
  ·cases h
 |pick c x y=>
  rw[ho]at h;have hc:=hs.ev c;simp only[O0]at h;split at h
  ·rename_i b hd;rw[hd]at hc;have hc':=RepD.bool hc;rcases M6 h with⟨e,h⟩|⟨e,h⟩
   ·exact⟨_,_,h,hs.ev x,fun _ _=>by simp[execOp,ho,hc',e,asBool]⟩
   ·exact⟨_,_,h,hs.ev y,fun _ _=>by simp[execOp,ho,hc',e,asBool]⟩
  ·rename_i hd;rw[hd]at hc;have hc':a.eval c = .bool true:=hc;exact⟨_,_,h,hs.ev x,fun _ _=>by simp[execOp,ho,hc',asBool]⟩
  ·rename_i hd;rw[hd]at hc;have hc':a.eval c = .bool false:=hc;exact⟨_,_,h,hs.ev y,fun _ _=>by simp[execOp,ho,hc',asBool]⟩
  ·cases h
 |binOp op T x y ty=>
  rw[ho]at h;simp only[O0]at h;obtain⟨d,v,h1,h2,h3⟩:=b2S hE (ox:=x) (oy:=y) (a4J (hs.ev x)) (a4J (hs.ev y)) h;refine⟨d,v,h1,h2,fun w' _=>?_⟩;simp only[execOp,ho];exact M9 (h3 w' trivial)
 |unOp op T x=>
  rw[ho]at h;have hx:=hs.ev x;cases op<;>simp only[O0]at h<;>first|(cases h;done)|skip
  split at h
  ·rename_i b hd;rw[hd]at hx;have hx':=RepD.bool hx;exact⟨_,_,h,J5 _,fun _ _=>by simp[execOp,ho,hx',Op.unary]⟩
  ·rename_i b hd;rw[hd]at hx;have hx':a.eval x = .bool b:=hx;exact⟨_,.bool (!b),h,RepD0.toD (d:= .bl !b) rfl,fun _ _=>by simp[execOp,ho,hx',Op.unary]⟩
  ·cases h
 |convert S T x=>rw[ho]at hk;cases hk
 |index T x i=>
  rw[ho]at h;simp only[O0]at h;split at h
  ·rename_i s i' hT hd hi;have hx:=hs.ev x;have hi2:=hs.ev i;rw[hd]at hx;rw[hi]at hi2;obtain⟨d,v,h1,h2,h3⟩:=b1G hE hT hx hi2 h;exact⟨d,v,h1,h2,fun w' _=>by simp only[execOp,ho];exact M9 (h3 w' trivial)⟩
  ·rename_i s i' hT hd hi;have hx:=hs.ev x;have hi2:=hs.ev i;rw[hd]at hx;rw[hi]at hi2;obtain⟨d,v,h1,h2,h3⟩:=a9v hE hT hx hi2 h;exact⟨d,v,h1,h2,fun w' _=>by simp only[execOp,ho];exact M9 (h3 w' trivial)⟩
  ·cases h
 |indexAddr T x i=>
  rw[ho]at h;simp only[O0]at h;split at h
  ·rename_i e t i' hT hi;have hi2:=hs.ev i;rw[hi]at hi2;split at h
   ·rename_i l hl;obtain⟨d,v,h1,h2,h3⟩:=a6c hE (g:=g) hT (hs.dat (hs.ev x) hl) hi2 h;exact⟨d,v,h1,h2,fun w' _=>by simp only[execOp,ho];exact M9 (h3 w' trivial)⟩
   ·have hx:=hs.ev x;split at h
    ·rename_i r' hd;rw[hd]at hx;split at h
     ·rename_i e1 t' xs hb;split at h
      ·rename_i et;subst et;rcases M6 h with⟨hc,h⟩|⟨_,h⟩
       ·have hc':=of_decide_eq_true hc;obtain⟨gx,hg,hz,cs,h2,h3,h4,h5⟩:=hs.hp _ _ hb;obtain⟨gx',A,n,c,h6,h7,h8⟩:=hx;rw[hg]at h6;cases h6;obtain⟨A',c',e3,hlc,hcm,hrow⟩:=Row.of_own' h2;have hpos:0<xs.length:=Int.ofNat_lt.1 (Int.lt_of_le_of_lt hc'.1 hc'.2);obtain⟨b,hv⟩:∃b,gx.v = .slice (some ⟨b,0,none⟩) xs.length c':=by
         rcases h2.2 with⟨_,e9⟩|⟨gg,cap,cur,e0,_⟩
         ·exact absurd e9 (Nat.ne_of_gt hpos)
         ·rw[e0]at e3;simp only[Value.slice.injEq,true_and]at e3;obtain⟨_,rfl⟩:=e3;exact⟨gg,e0⟩
        have hi':=RepD.int hi2;obtain⟨hok,bytes,⟨hu,_⟩,_⟩:=hE.el _ _ _ hT;refine⟨_,.pointer (some ⟨b,i'.toNat*t'.sz+0,none⟩),h,⟨gx,b,xs.length,c',hg,hv,hc'.1,hc'.2,rfl⟩,fun w' _=>?_⟩;have hxv:a.eval x = .slice (some ⟨b,0,none⟩) xs.length c':=h7.trans hv;have hcond:0<=i'/\i'<(xs.length:Int):=hc';have:=Addr.add_box b 0 (i'.toNat*t'.sz);rw[Nat.zero_add]at this;simp[execOp,ho,hxv,hi',Instr.indexAt,asIntOf,run_underlying hu,hcond,G2 hok,this]
       ·cases h
      ·cases h
     ·cases h
    ·cases h
  ·cases h
 |fieldAddr T x f=>
  rw[ho]at h;obtain⟨d,v,h1,h2,h3⟩:=a56 hE hs h;exact⟨d,v,h1,h2,fun w' _=>by simp only[execOp,ho];exact M9 (h3 w')⟩
 |field T x f=>
  rw[ho]at h;obtain⟨d,v,h1,h2,h3⟩:=b1E hE hs h;exact⟨d,v,h1,h2,fun w' _=>by simp only[execOp,ho];exact M9 (h3 w' trivial)⟩
 |load T x=>rw[ho]at hk;cases hk
 |slice T x lo hi mx=>rw[ho]at hk;cases hk
 |lookup T x i ok=>rw[ho]at hk;cases hk
 |extract x i=>
  rw[ho]at h;have hx:=hs.ev x;simp only[O0]at h;split at h
  ·rename_i l hd;rw[hd]at hx;obtain⟨vs,e,ha⟩:=hx;split at h
   ·rename_i d hdl;obtain⟨v,hv,hr⟩:=ha.get hdl;rw[Array.getElem?_toList]at hv;exact⟨d,v,h,hr.toD,fun _ _=>by simp[execOp,ho,e,Instr.extract,hv]⟩
   ·cases h
  ·cases h
 |build T ps=>rw[ho]at hk;cases hk
 |call c=>rw[ho]at hk;cases hk
 |_=>rw[ho]at h;simp[O0]at h
end
end
section
section
variable{P:Program}{df:List Deferred}{G:World->Prop}{B0:Nat}{E:Env}{M:Nat->Nat->Prop}{M0:Nat->Nat->Prop}{w0:World}{gi g:Gh}{st:St}{a:Act}{w:World}
theorem b0q{t:Ty}{cs:List Value}(hl:cs.length=t.sz)(h1:∀u∈cs,u.oneCell'=true):(mkV t cs).cells=cs.toArray:=by
 cases ht:t.isAgg
 ·rw[T6 ht]at hl
  match cs,hl with
  |[c],_=>
   rw[a1q ht];have:=h1 c (by simp);cases c<;>first|rfl|simp[Value.oneCell']at this
 ·rw[a2d ht];rfl
def S6{R:Type}(df:List Deferred)(G:World->Prop)(B0:Nat)(M0:Nat->Nat->Prop)(w0:World)(gi:Gh)(k:St->Option R)(r:R)(K:Act->World->Prop):Prop:=∀g st a w,Sim df G B0 M0 w0 gi g st a w->k st=some r->K a w
theorem a8U{R:Type}[BothC R]{o:Oper}{k:St->Option R}{r:R}{K:Act->World->Prop}{Q:Exit->Act->World->Prop}(hE:EnvOk P G B0 E)(hs:Sim df G B0 M0 w0 gi g st a w)(hK:S6 df G B0 M0 w0 gi k r K)
  (h:O0 E o.op o.type st (fun d=>k (st.put o.dst d))=some r):o.wp P a w K Q:=by
 obtain⟨d,v,h1,h2,h3⟩:=a5z hE hs h;unfold Oper.wp;rw[h3 w (KeepR.of_ext (Ext.refl w)),Oper.upon_value];exact hK _ _ _ _ (hs.put _ h2) h1
theorem wp_ret{o:Oper}{K:Act->World->Prop}{Q:Exit->Act->World->Prop}{s:Sem Value}{v:Value}{w':World}(he:execOp a.eval o=(do pure (Next.value (<-s))))(hr:s.run P w = .ok v w')(h:K (a.put o.dst v) w'):o.wp P a w K Q:=by
 unfold Oper.wp;rw[he];simp only[Sem.run_bind,hr,Result.andThen_ok,Sem.run_pure];rw[Oper.upon_value];exact h
theorem b4b{o:Oper}{K:Act->World->Prop}{Q:Exit->Act->World->Prop}{s:Sem Unit}{w':World}(he:execOp a.eval o=(do s;pure Next.skip))(hr:s.run P w = .ok () w')(h:K (a.put o.dst undef) w'):o.wp P a w K Q:=by
 unfold Oper.wp;rw[he];simp only[Sem.run_bind,hr,Result.andThen_ok,Sem.run_pure];rw[Oper.upon_skip];exact h
theorem RepD0.sameV{M M':Nat->Nat->Prop}{w':World}{g':Gh}(hst:Step M w M' w')(hg:∀r x,g r=some x->∃x',g' r=some x'/\x'.v=x.v){d:D}{v:Value}(h:RepD0 M w g d v):RepD0 M' w' g' d v:=by
 cases d with
 |box r o=>obtain⟨x,b,h1,h2,h3⟩:=h;obtain⟨x',h4,h5⟩:=hg r x h1;exact⟨x',b,h4,h5.trans h2,h3⟩
 |mref r=>obtain⟨x,b,h1,h2,h3⟩:=h;obtain⟨x',h4,h5⟩:=hg r x h1;exact⟨x',b,h4,h5.trans h2,h3⟩
 |row r=>obtain⟨x,A,n,c,h1,h2,h3⟩:=h;obtain⟨x',h4,h5⟩:=hg r x h1;exact⟨x',A,n,c,h4,h2.trans h5.symm,h3⟩
 |elp r z i o=>obtain⟨x,b,n,c,h1,h2,h3⟩:=h;obtain⟨x',h4,h5⟩:=hg r x h1;exact⟨x',b,n,c,h4,h5.trans h2,h3⟩
 |tl r z i=>obtain⟨x,b,n,c,h1,h2,h3⟩:=h;obtain⟨x',h4,h5⟩:=hg r x h1;exact⟨x',b,n,c,h4,h5.trans h2,h3⟩
 |fnc f ns=>
  obtain⟨cs,e,ha⟩:=h;refine⟨cs,e,ha.mono ?_⟩;rintro r u ⟨x,b,h1,h2,h3⟩;obtain⟨x',h4,h5⟩:=hg r x h1;exact⟨x',b,h4,h5.trans h2,h3⟩
 |dead=>trivial
 |skip=>exact h
 |bl b=>exact h
 |v t x=>exact RepV.step hst h
 |nilS=>exact h
 |nilP=>exact h
 |at_ t x=>obtain⟨ad,cs,a,b,c⟩:=h;exact⟨ad,cs,a,RepC.step hst _ _ _ b,c.step hst⟩
 |tup b l=>exact h.elim
theorem Sim.softD(hs:Sim df G B0 M0 w0 gi g st a w){q:Nat}{e:TypeId}{t:Ty}{xs:List t.den}(hb:v6 st.hp q=some (.row e t true xs)):∃g',Sim df G B0 M0 w0 gi g' (st.setB q (.row e t false xs)) a w/\∀d v,RepD (u9 M0 g) w g d v->RepD (u9 M0 g') w g' d v:=by
 obtain⟨x,h1,hz,cs,h2,h3,h4,h5⟩:=hs.hp _ _ hb;have h4':x.lo=0:=h4
 let z:GB:=⟨x.blk,xs.length*t.sz,x.v⟩
 have ht:Turn g q (some z) w w:=by
  refine⟨rfl,rfl,rfl,Nat.le_refl _,fun _ _ _=>rfl,fun z' b e1 e2=>?_,fun x' b e1 e2 e3=>?_,fun z' b e1 e2 e3 es c hc=>?_⟩
  ·cases e1;exact⟨(hs.low _ _ _ h1 e2).2.1,.inr ⟨x,h1,e2⟩⟩
  ·rw[h1]at e1;cases e1;omega
  ·cases e1;have e4:x.blk=some b:=e2;rw[h3]at e4;rcases h2.2 with⟨e5,_⟩|⟨gg,cap,cur,e5,_,hg,_⟩
   ·rw[e5]at e4;cases e4
   ·rw[e5]at e4;have:gg=b:=by simpa [Value.ownBlock]using e4
    subst this;rw[hg]at hc;cases hc
 have hst:=ht.step hs;have hv:∀r y,g r=some y->∃y',(g.set q (some z)) r=some y'/\y'.v=y.v:=fun r y hy=>by
  by_cases hr:r=q
  ·subst hr;rw[h1]at hy;cases hy;exact⟨z,Gh.set_same _ _ _,rfl⟩
  ·exact⟨y,by rw[Gh.set_other _ _ hr];exact hy,rfl⟩
 have:=hs.turnB ht (φ:=id) (fun d v h=>RepD0.sameV hst hv h) (fun _ _=>rfl) (fun x' e1 e2=>by
  have:=hs.pin q x' e1 e2;rw[h1]at this;cases this;obtain⟨A,c,e3,_⟩:=Row.of_own' h2;rw[e3]at e2;cases e2) (blk:= .row e t false xs) ⟨hz,cs,h2,h3,rfl,fun i hi=>RepC.step hst _ _ _ (h5 i hi)⟩
 rw[b8V]at this;exact⟨_,this,fun d v h=>by have:=RepD.lift (f:=id) (fun d v h=>RepD0.sameV hst hv h) (fun _ _=>rfl) h;rwa [c1g]at this⟩
theorem b1M{R:Type}[BothC R](hs:Sim df G B0 M0 w0 gi g st a w){d:D}{k:St->Option R}{r:R}(h:st.soft1K d k=some r):∃g' st',Sim df G B0 M0 w0 gi g' st' a w/\k st'=some r/\(∀x,st'.ev x=st.ev x)/\(∀x v,RepD (u9 M0 g) w g x v->RepD (u9 M0 g') w g' x v):=by
 unfold St.soft1K at h;split at h
 ·split at h
  ·rename_i hb;rw[a0t]at h;obtain⟨g',h1,h2⟩:=hs.softD hb;exact⟨g',_,h1,h,fun x=>by cases x<;>rfl,h2⟩
  ·exact⟨g,st,hs,h,fun _=>rfl,fun _ _ h=>h⟩
 ·exact⟨g,st,hs,h,fun _=>rfl,fun _ _ h=>h⟩
theorem a5s{R:Type}[BothC R]:∀(l:List D) {g:Gh} {st:St},Sim df G B0 M0 w0 gi g st a w->∀{k:St->Option R} {r:R},St.soft1sK l st k=some r->∃g' st',Sim df G B0 M0 w0 gi g' st' a w/\k st'=some r/\(∀x,st'.ev x=st.ev x)/\(∀x v,RepD (u9 M0 g) w g x v->RepD (u9 M0 g') w g' x v)
 |[],g,st,hs,k,r,h=>⟨g,st,hs,h,fun _=>rfl,fun _ _ h=>h⟩
 |x :: l,g,st,hs,k,r,h=>by
  change st.soft1K x (fun st=>St.soft1sK l st k)=some r at h;obtain⟨g',st',h1,h2,h3,h4⟩:=b1M hs h;obtain⟨g2,st2,h5,h6,h7,h8⟩:=a5s l h1 h2;exact⟨g2,st2,h5,h6,fun x=>(h7 x).trans (h3 x),fun x v hx=>h8 x v (h4 x v hx)⟩
theorem c1Q{R:Type}[BothC R](hs:Sim df G B0 M0 w0 gi g st a w){d:D}{k:St->Option R}{r:R}(h:st.softTK d k=some r):∃g' st',Sim df G B0 M0 w0 gi g' st' a w/\k st'=some r/\(∀x,st'.ev x=st.ev x)/\(∀x v,RepD (u9 M0 g) w g x v->RepD (u9 M0 g') w g' x v):=by
 unfold St.softTK at h;split at h
 ·exact a5s _ hs h
 ·exact⟨g,st,hs,h,fun _=>rfl,fun _ _ h=>h⟩
theorem a3G{R:Type}[BothC R](hs:Sim df G B0 M0 w0 gi g st a w){d:D}{k:St->Option R}{r:R}(h:st.softK d k=some r):∃g' st',Sim df G B0 M0 w0 gi g' st' a w/\k st'=some r/\(∀x,st'.ev x=st.ev x)/\(∀x v,RepD (u9 M0 g) w g x v->RepD (u9 M0 g') w g' x v):=by
 unfold St.softK at h;split at h
 ·exact a5s _ hs h
 ·exact b1M hs h
 ·exact⟨g,st,hs,h,fun _=>rfl,fun _ _ h=>h⟩
theorem a6W{R:Type}[BothC R](hs:Sim df G B0 M0 w0 gi g st a w){d:D}{k:St->Option R}{r:R}(h:st.softK d k=some r):∃g' st',Sim df G B0 M0 w0 gi g' st' a w/\k st'=some r:=by
 obtain⟨g',st',h1,h2,_⟩:=a3G hs h;exact⟨g',st',h1,h2⟩
theorem a8p{R:Type}[BothC R]:∀(l:List Operand) {g:Gh} {st:St},Sim df G B0 M0 w0 gi g st a w->∀{k:St->Option R} {r:R},St.softTsK l st k=some r->∃g' st',Sim df G B0 M0 w0 gi g' st' a w/\k st'=some r
 |[],g,st,hs,k,r,h=>⟨g,st,hs,h⟩
 |x :: l,g,st,hs,k,r,h=>by
  change st.softTK (st.ev x) (fun st=>St.softTsK l st k)=some r at h;obtain⟨g',st',h1,h2,_⟩:=c1Q hs h;exact a8p l h1 h2
theorem a9K{R:Type}[BothC R]:∀(l:List Operand) {g:Gh} {st:St},Sim df G B0 M0 w0 gi g st a w->∀{k:St->Option R} {r:R},St.softsK l st k=some r->∃g' st',Sim df G B0 M0 w0 gi g' st' a w/\k st'=some r
 |[],g,st,hs,k,r,h=>⟨g,st,hs,h⟩
 |x :: l,g,st,hs,k,r,h=>by
  change st.softK (st.ev x) (fun st=>St.softsK l st k)=some r at h;obtain⟨g',st',h1,h2⟩:=a6W hs h;exact a9K l h1 h2
theorem a8o{R:Type}[BothC R]:∀(l:List D) {g:Gh} {st:St},Sim df G B0 M0 w0 gi g st a w->∀{k:St->Option R} {r:R},St.softDsK l st k=some r->∃g' st',Sim df G B0 M0 w0 gi g' st' a w/\k st'=some r
 |[],g,st,hs,k,r,h=>⟨g,st,hs,h⟩
 |x :: l,g,st,hs,k,r,h=>by
  change st.softK x (fun st=>St.softDsK l st k)=some r at h;obtain⟨g',st',h1,h2⟩:=a6W hs h;exact a8o l h1 h2
theorem b9H{R:Type}[BothC R]{o:Oper}{k:St->Option R}{r:R}{K:Act->World->Prop}{Q:Exit->Act->World->Prop}(hs:Sim df G B0 M0 w0 gi g st a w)(hK:S6 df G B0 M0 w0 gi k r K){n:Nat}(hd:o.dst=some n)
  {s:Sem Value} (he:execOp a.eval o=(do pure (Next.value (<-s)))) {vs:Array Value} {el:TypeId} (hrun:s.run P w = .ok (S8 w.heap.size) (w.alloc (.cells vs el)))
  {ds:List D} (hds:∀(g':Gh),Step (u9 M0 g) w (u9 M0 g') (w.alloc (.cells vs el))->(∀q,q≠nm n->g' q=g q)->All2 (RepD0 (u9 M0 g') (w.alloc (.cells vs el)) g') ds vs.toList) (h:k ((st.new (nm n) (.cells ds)).put (some n) (.box (nm n) 0))=some r):o.wp P a w K Q:=by
 refine wp_ret he hrun ?_;rw[hd];have hE:Ext w (w.alloc (.cells vs el)):=(Ext.refl w).alloc _;have hh:(w.alloc (.cells vs el)).heap[w.heap.size]? = some (.cells vs el):=heap_alloc_new _ _;refine hK _ _ _ _ (Sim.put (hs.newB (r:=nm n) (z:=⟨some w.heap.size,0,S8 w.heap.size⟩) (Nat.le_add_right _ _) hE (blk:= .cells ds) (fun b hb=>?_) (fun hst=>⟨_,vs,el,rfl,hh,hds _ hst fun q hq=>Gh.set_other _ _ hq⟩)) (some n) ?_) h
 ·have:w.heap.size=b:=by simpa using hb
  subst this;exact⟨Nat.le_refl _,by simp,fun es c hc=>absurd hc (Nat.lt_irrefl 0)⟩
 ·exact⟨_,_,Gh.set_same _ _ _,rfl,rfl⟩
theorem d2Y{R:Type}[BothC R](hE:EnvOk P G B0 E){o:Oper}{k:St->Option R}{r:R}{K:Act->World->Prop}{Q:Exit->Act->World->Prop}(hs:Sim df G B0 M0 w0 gi g st a w)(hK:S6 df G B0 M0 w0 gi k r K)
  {T:TypeId} (ho:o.op = .alloc T) (h:opD E o st k=some r):o.wp P a w K Q:=by
 simp only[opD,ho,F5,a2Z]at h;split at h
 ·rename_i t n hT hd;split at h
  ·rename_i cs hz;have hok:=hE.ty _ _ hT;refine b9H hs hK hd (s:=Instr.alloc T true (.tuple #[])) (by simp only[execOp,ho]) (vs:=(mkV t (I5 t)).cells) (el:=T) ?_ (ds:=cs) ?_ h
   ·simp[Instr.alloc,a5X hok,newVar,newRow,S8]
   ·intro g' _ _;rw[b0q (a19 t) (b1t t)];exact a59 t cs hz
  ·cases h
 ·cases h
theorem e5I{R:Type}[BothC R](hE:EnvOk P G B0 E){o:Oper}{k:St->Option R}{r:R}{K:Act->World->Prop}{Q:Exit->Act->World->Prop}(hs:Sim df G B0 M0 w0 gi g st a w)(hK:S6 df G B0 M0 w0 gi k r K)
  {T:TypeId} {x:Operand} (ho:o.op = .box T x) (h:opD E o st k=some r):o.wp P a w K Q:=by
 simp only[opD,ho,F5,a2Z,a1H]at h;split at h
 ·rename_i t n hT hd;cases hag:t.isAgg
  ·rw[hag]at h;dsimp only at h;split at h
   ·rename_i hso;have hx:=hs.ev x;obtain⟨hc1,hc2⟩:=a60 hag hx hso;refine b9H hs hK hd (s:=Instr.box T (a.eval x)) (by simp only[execOp,ho]) (vs:=(a.eval x).cells) (el:=T) (by simp[Instr.box,newVar,newRow,S8]) (ds:=[forget [nm n] (nob (st.ev x))]) (fun g' hst hq=>?_) h;rw[hc1];have h0:RepD0 (u9 M0 g) w g (nob (st.ev x)) (a.eval x):=a5g (b3C hx (a61 hso));exact⟨RepD0.forget hst (fun r hr=>hq r (by simpa using hr)) h0,trivial⟩
   ·cases h
  ·rw[hag]at h;dsimp only at h;split at h
   ·rename_i l hraw hev;split at h
    ·have hx:=hs.ev x;rw[hev]at hx;obtain⟨vs,e,ha⟩:=hx;refine b9H hs hK hd (s:=Instr.box T (a.eval x)) (by simp only[execOp,ho]) (vs:=(a.eval x).cells) (el:=T) (by simp[Instr.box,newVar,newRow,S8]) (ds:=l.map fun d=>forget [nm n] (nob d)) (fun g' hst hq=>?_) h;have e:a.eval x = .agg vs:=e;have ec:(a.eval x).cells.toList=vs.toList:=by rw[e];rfl
     rw[ec];exact ha.mapL (fun d=>forget [nm n] (nob d)) fun d v hd=>RepD0.forget (l:=[nm n]) hst (fun r hr=>hq r (by simpa using hr)) (a5g hd)
    ·cases h
   obtain⟨g',st',hs',h,hev,_⟩:=a3G hs h;split at h
   ·rename_i y hy;have hr:=(hs'.dta (hs'.ev x) hy).cells;refine b9H hs' hK hd (s:=Instr.box T (a.eval x)) (by simp only[execOp,ho]) (vs:=(a.eval x).cells) (el:=T) (by simp[Instr.box,newVar,newRow,S8]) (ds:=flat t y) (fun g' hst hq=>?_) h;exact a8I t y _ (RepC.step hst _ _ _ hr)
   ·cases h
 ·cases h
theorem c4M{R:Type}[BothC R](hE:EnvOk P G B0 E){o:Oper}{k:St->Option R}{r:R}{K:Act->World->Prop}{Q:Exit->Act->World->Prop}(hs:Sim df G B0 M0 w0 gi g st a w)(hK:S6 df G B0 M0 w0 gi k r K)
  {T:TypeId} (ho:o.op = .makeMap T none) (h:opD E o st k=some r):o.wp P a w K Q:=by
 simp only[opD,ho,F5,a2Z]at h;split at h
 ·rename_i e n hT hd;refine wp_ret (s:=Instr.makeMap T none) (v:= .map (some w.heap.size)) (w':=w.alloc (.map #[] 0)) (by simp only[execOp,ho,Option.map_none]) (by simp[Instr.makeMap]) ?_;rw[hd];have hE:Ext w (w.alloc (.map #[] 0)):=(Ext.refl w).alloc _;refine hK _ _ _ _ (Sim.put (hs.newB (r:=nm n) (z:=⟨some w.heap.size,0,.map (some w.heap.size)⟩) (Nat.le_add_right _ _) hE (blk:= .map e []) (fun b hb=>?_) (fun hst=>⟨_,#[],0,rfl,heap_alloc_new _ _,trivial,MapKept.stamped_empty 0⟩)) (some n) ?_) h
  ·have:w.heap.size=b:=by simpa using hb
   subst this;exact⟨Nat.le_refl _,by simp,fun es c hc=>absurd hc (Nat.lt_irrefl 0)⟩
  ·exact⟨_,_,Gh.set_same _ _ _,rfl,rfl⟩
 ·cases h
theorem Sim.setObj(hs:Sim df G B0 M0 w0 gi g st a w){r b:Nat}{v:Value}(hx:g r=some ⟨some b,0,v⟩){w':World}(hos:w'.os=w.os)(htp:w'.tape=w.tape)(hout:w'.output=w.output)(hsize:w'.heap.size=w.heap.size)
  (hother:∀j,j≠b->w'.heap[j]? = w.heap[j]?) {blk:Blk} (hblk:Step (u9 M0 g) w (u9 M0 g) w'->RepB (u9 M0 g) w' g ⟨some b,0,v⟩ blk):Sim df G B0 M0 w0 gi g (st.setB r blk) a w':=
 hs.setB hx hos htp hout (by omega) (fun j _ hj=>hother j fun e=>hj (by rw[e])) (fun _ _ h=>absurd h (by simp)) hblk
theorem c9J{R:Type}[BothC R](hE:EnvOk P G B0 E){o:Oper}{k:St->Option R}{r:R}{K:Act->World->Prop}{Q:Exit->Act->World->Prop}(hs:Sim df G B0 M0 w0 gi g st a w)(hK:S6 df G B0 M0 w0 gi k r K)
  {T:TypeId} {x y:Operand} (ho:o.op = .store T x y) (h:opD E o st k=some r) (help:∀r' z i off,st.ev x = .elp r' z i off->o.wp P a w K Q):o.wp P a w K Q:=by
 have hx:=hs.ev x;simp only[opD,ho,a0t]at h;split at h
 ·rename_i t r' off hdst hT hd;rw[hd]at hx;obtain⟨gx,b,hg,hgv,ex⟩:=hx;split at h
  ·rename_i cs hcs;obtain⟨gx',hg',b',vs,el,e1,h1,h2⟩:=hs.hp _ _ hcs;rw[hg]at hg';cases hg';subst e1;have e3:b'=b:=by simpa [S8]using hgv
   subst e3;have hok:=hE.ty _ _ hT;have hlen:cs.length=vs.size:=by simpa using h2.len
   have key:∀(c:List Value) (ds':List D),(a.eval y).cells.toList=c->c.length=t.sz->(∀u∈c,u.oneCell'=true)->off+t.sz<=vs.size->
     (∀(w':World),Step (u9 M0 g) w (u9 M0 g) w'->All2 (RepD0 (u9 M0 g) w' g) ds' (vs.toList.take off++c++vs.toList.drop (off+t.sz)))->
     k (st.setB r' (.cells ds'))=some r->o.wp P a w K Q:=by
    intro c ds' hc hcl h1c hle hall hk;have hst0:=run_storeCells_at P b' off el c 0 vs w h1 (by rw[hcl];omega) h1c;rw[Nat.add_zero,hcl]at hst0;have hsz:(a.eval y).cells.size=t.sz:=by rw[<-Array.length_toList,hc,hcl]
    have hrun:(Instr.storeAt T (a.eval x) (a.eval y)).run P w = .ok () (w.setRow b' (vs.toList.take off++c++vs.toList.drop (off+t.sz)).toArray):=by
     simp[Instr.storeAt,ex,Instr.sureAddr,storeVar,G2 hok,hsz,hc,hst0]
    refine b4b (s:=Instr.storeAt T (a.eval x) (a.eval y)) (by simp only[execOp,ho]) hrun ?_;rw[hdst];refine hK _ _ _ _ (hs.setObj (w':=w.setRow b' (vs.toList.take off++c++vs.toList.drop (off+t.sz)).toArray) hg rfl rfl rfl (by simp[World.setRow]) (fun j hj=>setRow_other w b' j _ hj) (blk:= .cells ds') fun hst=>⟨b',_,el,rfl,setRow_heap w b' vs _ el _ h1,?_⟩) hk;have:=hall _ hst;simpa using this
   cases hagg:t.isAgg
   ·rw[hagg]at h;dsimp only at h;have hsz1:=T6 hagg;split at h
    ·rename_i hso;split at h
     ·rename_i hlt;obtain⟨hc1,hc2⟩:=a60 hagg (hs.ev y) hso;refine key _ _ hc1 (by rw[hsz1];rfl) (List.forall_mem_singleton.2 hc2) (by omega) (fun w' hst=>?_) h;have h2':=h2.mono (R':=RepD0 (u9 M0 g) w' g) fun _ _=>RepD0.step hst
      rw[hsz1];have e1:vs.toList.take off ++ [a.eval y]++vs.toList.drop (off+1)=vs.toList.set off (a.eval y):=by
       rw[List.set_eq_take_append_cons_drop,if_pos (by rw[Array.length_toList];omega)];simp
      rw[e1];exact h2'.set off (RepD0.step hst (a5g (b3C (hs.ev y) (a61 hso))))
     ·cases h
    ·cases h
   ·rw[hagg]at h;dsimp only at h;split at h
    ·rename_i l hl;split at h
     ·rename_i hle;obtain⟨hle,hll,hlc⟩:=hle;have hy:=hs.ev y;rw[hl]at hy;obtain⟨us,e,hus⟩:=hy;have e:a.eval y = .agg us:=e;have hone:=b6l hus hlc;have hcl:us.toList.length=t.sz:=by rw[<-hus.len];exact hll
      have hcc:(a.eval y).cells.toList=us.toList:=by rw[e,Value.cells]
      refine key _ _ hcc hcl hone (by omega) (fun w' hst=>?_) h;have h2':=h2.mono (R':=RepD0 (u9 M0 g) w' g) fun _ _=>RepD0.step hst
      exact((h2'.take off).append (hus.mono fun _ _=>RepD0.step hst)).append (h2'.drop _)
     ·cases h
    split at h
    ·rename_i z hz;have hr:=(hs.dta (hs.ev y) hz).cells;split at h
     ·rename_i hle;refine key _ _ rfl (RepC.len _ _ _ hr) (RepC.one _ _ _ hr) (by omega) (fun w' hst=>?_) h;have h2':=h2.mono (R':=RepD0 (u9 M0 g) w' g) fun _ _=>RepD0.step hst
      exact((h2'.take off).append (a8I t z _ (RepC.step hst _ _ _ hr))).append (h2'.drop _)
     ·cases h
    ·cases h
  ·cases h
 ·rename_i t r' z i off hdst hT hd;exact help _ _ _ _ hd
 ·cases h
theorem a8g{e:Ty}{M:Nat->Nat->Prop}(s:List UInt8):∀(m:List (List UInt8×e.den)) (es:List MapEntry),All2 (fun x y=>y.key = .string ⟨x.1.toArray⟩/\RepV M w e x.2 y.val) m es->a0X m s=none->∀y∈es,y.key ≠ .string ⟨s.toArray⟩
 |[],[],_,_,y,hy=>by cases hy
 |(k,x) :: m,en :: es,h,h0,y,hy=>by
  simp only[a0X]at h0;split at h0
  ·cases h0
  ·rename_i hk;rcases List.mem_cons.1 hy with rfl|hy
   ·intro e;rw[h.1.1]at e;simp at e;exact hk (by simp[e])
   ·exact a8g s m es h.2 h0 y hy
 |[],_ :: _,h,_,_,_=>h.elim
 |_ :: _,[],h,_,_,_=>h.elim
theorem b82{R:Type}[BothC R](hE:EnvOk P G B0 E){o:Oper}{k:St->Option R}{r:R}{K:Act->World->Prop}{Q:Exit->Act->World->Prop}(hs:Sim df G B0 M0 w0 gi g st a w)(hK:S6 df G B0 M0 w0 gi k r K)
  {T:TypeId} {m key x:Operand} (ho:o.op = .mapUpdate T m key x) (h:opD E o st k=some r):o.wp P a w K Q:=by
 simp only[opD,ho,a0t]at h;split at h
 ·rename_i e0 r' s hdst hT hd hdk;obtain⟨g,st',hs,h,hev,_⟩:=a3G hs h;have hm:=hs.ev m;have hk:=hs.ev key;rw[hev,hd]at hm;rw[hev,hdk]at hk;obtain⟨gx,b,hg,hgv,em⟩:=hm;have ek:=RepD.str hk;split at h
  ·rename_i e mm hcs;split at h
   ·rename_i e1;subst e1;split at h
    ·rename_i y hy;obtain⟨gx',hg',b',es,c,e2,h1,h2,hst0⟩:=hs.hp _ _ hcs;rw[hg]at hg';cases hg';subst e2;have e3:b'=b:=by simpa using hgv
     subst e3;have hr:=hs.dta (hs.ev x) hy;obtain⟨kt,el,hu,huk,hel⟩:=hE.mp _ _ hT;have hgo:(getObj b').run P w = .ok (.map es c) w:=by simp[getObj,Sem.run,h1]
     have hck:=a9G (P:=P) (w:=w) (s:=⟨s.toArray⟩) false huk 9999;have hbl:=z8 h1;have key2:∀(es':Array MapEntry) (c':Nat),(Instr.mapUpdate T (.map (some b')) (.string ⟨s.toArray⟩) (a.eval x)).run P w = .ok () {w with heap:=w.heap.setIfInBounds b' (.map es' c')}->
       (∀(w':World),Step (u9 M0 g) w (u9 M0 g) w'->All2 (fun x y=>y.key = .string ⟨x.1.toArray⟩/\RepV (u9 M0 g) w' e0 x.2 y.val) (a1V mm s y) es'.toList)->MapKept.Stamped es' c'->o.wp P a w K Q:=by
      intro es' c' hrun hall hst';refine b4b (s:=Instr.mapUpdate T (a.eval m) (a.eval key) (a.eval x)) (w':={w with heap:=w.heap.setIfInBounds b' (.map es' c')}) (by simp only[execOp,ho]) (by rw[em,ek];exact hrun) ?_;rw[hdst];have hother:∀j,j≠b'->(w.heap.setIfInBounds b' (.map es' c'))[j]? = w.heap[j]?:=fun j hj=>by rw[Array.getElem?_setIfInBounds,if_neg (Ne.symm hj)]
      refine hK _ _ _ _ (hs.setObj (w':={w with heap:=w.heap.setIfInBounds b' (.map es' c')}) hg rfl rfl rfl (by simp) hother (blk:= .map e0 (a1V mm s y)) fun hst=>⟨b',es',c',rfl,?_,hall _ hst,hst'⟩) h;show(w.heap.setIfInBounds b' (.map es' c'))[b']? = _;rw[Array.getElem?_setIfInBounds,if_pos rfl,if_pos hbl]
     rcases a6G s mm es.toList 0 h2 with⟨a1,a2⟩|⟨j,z,en,a1,a2,a3,a4,a5,a6⟩
     ·refine key2 (es.push {key:= .string ⟨s.toArray⟩,val:=a.eval x,born:=c}) (c+1) ?_ ?_ (MapKept.stamped_push hst0 (a8g s mm _ h2 a1))
      ·simp[Instr.mapUpdate,run_underlying hu,hgo,hck,Instr.findKey,run_underlying huk,a2,setObj,Sem.run,h1]
      ·intro w' hst;rw[d3V _ _ _ a1,Array.toList_push];exact(h2.mono fun _ _ ⟨h6,h7⟩=>⟨h6,h7.step hst⟩).append ⟨⟨rfl,hr.step hst⟩,trivial⟩
     ·rw[Array.getElem?_toList]at a2;refine key2 (es.modify j fun q=>{q with key:= .string ⟨s.toArray⟩,val:=a.eval x}) c ?_ ?_ (MapKept.stamped_modify hst0 j _ (fun _ _=>rfl) fun e _ he=>by rw[a2]at he;cases he;exact a3.symm)
      ·have hsame:Instr.sameBits 10000 (.string ⟨s.toArray⟩) (.string ⟨s.toArray⟩)=true:=by
        show((⟨s.toArray⟩:ByteArray)==⟨s.toArray⟩)=true;rw[b6g];simp
       have hstay:(Instr.keyThatStays (.string ⟨s.toArray⟩) (.string ⟨s.toArray⟩)).run P w = .ok (.string ⟨s.toArray⟩) w:=by
        simp only[Instr.keyThatStays,hsame,if_true,Sem.run_pure]
       simp[Instr.mapUpdate,run_underlying hu,hgo,hck,Instr.findKey,run_underlying huk,a4,setObj,Sem.run,h1,a2,a3,hstay]
      ·intro w' hst;have h2':=h2.mono (R':=fun x y=>y.key = .string ⟨x.1.toArray⟩/\RepV (u9 M0 g) w' e0 x.2 y.val) fun _ _ ⟨h6,h7⟩=>⟨h6,h7.step hst⟩
       rw[a6 y];have em2:(es.modify j fun q=>{q with key:= .string ⟨s.toArray⟩,val:=a.eval x}).toList=es.toList.set j {en with key:= .string ⟨s.toArray⟩,val:=a.eval x}:=by
        apply List.ext_getElem?;intro i;rw[Array.getElem?_toList,Array.getElem?_modify,List.getElem?_set];by_cases hij:j=i
        ·subst hij;rw[if_pos rfl,if_pos rfl,a2,if_pos (by rw[Array.length_toList];exact(Array.getElem?_eq_some_iff.1 a2).1)];rfl
        ·rw[if_neg hij,if_neg hij,Array.getElem?_toList]
       rw[em2];exact h2'.set j ⟨rfl,hr.step hst⟩
    ·cases h
   ·cases h
  ·cases h
 ·cases h
end
end
end Go.Proofs.YtckdohagilcloaaGreatDoor
