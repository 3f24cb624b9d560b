/- % -/
import Derived.Test.YtolpmfhiegpohaaGreatDoorQLPrA
import Derived.Test.YtolpmfhiegpohaaGreatDoorQLPaB
import Derived.Lib.Join
namespace Go.Proofs.YtolpmfhiegpohaaGreatDoor
set_option linter.unusedVariables false
set_option linter.unusedSimpArgs false
open Go Go.RowKit
section
def a3M(b:Bool)(s:d7):d7:=if b then [40]++s ++ [41]else s
def prK(k:Int)(qs:List Int)(ps:List d7)(i:Nat):d7:=a3M (T9 k (qs.getD i 0) (i:Int)) (ps.getD i [])
def prX(k:Int)(t:d7)(n:Int)(ks:List d7)(qs:List Int)(ps:List d7):d7:=if k=1 then rpQ t else if k=2 then Lib.itoa n else if k=3 then t else if k=4 then [91]++Lib.join ps [44,32] ++ [93]else if k=5 then [102,105,108,101,115,40]++Lib.join ps [44,32] ++ [41]else if k=7 then prK 7 qs ps 0 ++ [32,43,32]++prK 7 qs ps 1 else if k=8 then prK 8 qs ps 0 ++ [32,61,61,32]++prK 8 qs ps 1 else [99,104,111,111,115,101,32,123]++Lib.join (List.zipWith (fun q p=>rpQ q ++ [58,32]++p) ks ps) [44,32] ++ [125]
mutual
def L0:GExpr->d7 | .mk k t n ks es=>prX k t n ks (es.map GExpr.kind) (c6B es)
def c6B:List GExpr->List d7 | []=>[]|e :: es=>L0 e :: c6B es
end
theorem b7Z:∀es,c6B es=es.map L0
 |[]=>by rw[c6B];rfl
 |e :: es=>by rw[c6B,b7Z es];rfl
theorem a4Z(k:Int)(t:d7)(n:Int)(ks:List d7)(es:List GExpr):L0 (.mk k t n ks es)=prX k t n ks (es.map GExpr.kind) (es.map L0):=by rw[L0,b7Z]
abbrev B8(c:UInt8):Key:=(4,[c],0)
abbrev T4(q:d7):Key:=(1,q,0)
def O4(b:Bool)(s:List Key):List Key:=if b then [B8 40]++s ++ [B8 41]else s
def o8:List (List Key)->List Key | []=>[] | [x]=>x|x :: y :: r=>x++([B8 44]++o8 (y :: r))
def tkK(k:Int)(qs:List Int)(ps:List (List Key))(i:Nat):List Key:=O4 (T9 k (qs.getD i 0) (i:Int)) (ps.getD i [])
def tkX(k:Int)(t:d7)(n:Int)(ks:List d7)(qs:List Int)(ps:List (List Key)):List Key:=if k=1 then [(2,t,0)]else if k=2 then [(3,[],n)]else if k=3 then [T4 t]else if k=4 then [B8 91]++o8 ps ++ [B8 93]else if k=5 then [T4 [102,105,108,101,115],B8 40]++o8 ps ++ [B8 41]else if k=7 then tkK 7 qs ps 0 ++ [B8 43]++tkK 7 qs ps 1 else if k=8 then tkK 8 qs ps 0 ++ [(4,[61,61],0)]++tkK 8 qs ps 1 else [T4 [99,104,111,111,115,101],B8 123]++o8 (List.zipWith (fun q p=>[(2,q,0),B8 58]++p) ks ps) ++ [B8 125]
mutual
def s5:GExpr->List Key | .mk k t n ks es=>tkX k t n ks (es.map GExpr.kind) (c69 es)
def c69:List GExpr->List (List Key) | []=>[]|e :: es=>s5 e :: c69 es
end
theorem b8v:∀es,c69 es=es.map s5
 |[]=>by rw[c69];rfl
 |e :: es=>by rw[c69,b8v es];rfl
theorem a5k(k:Int)(t:d7)(n:Int)(ks:List d7)(es:List GExpr):s5 (.mk k t n ks es)=tkX k t n ks (es.map GExpr.kind) (es.map s5):=by rw[s5,b8v]
def pb(b:Bool):Nat:=if b then 1 else 0
def WE:Nat->Nat->GExpr->Prop|0,_,_=>False|k+1,x,e=>x<30/\((∃t:d7,t.all V5=true/\e = .mk 1 t 0 [] [])\/(∃n:Nat,n<=999999999/\e = .mk 2 [] (n:Int) [] [])\/(∃t:d7,A5 t=true/\e = .mk 3 t 0 [] [])\/(∃es:List GExpr,e = .mk 4 [] 0 [] es/\∀c∈es,WE k (x+1) c)\/(∃a b,e = .mk 5 [] 0 [] [a,b]/\WE k (x+1) a/\WE k (x+1) b)\/(∃(ks:List d7) (es:List GExpr),ks.length=es.length/\0<es.length/\(∀s∈ks,s.all V5=true)/\e = .mk 6 [] 0 ks es/\∀c∈es,WE k (x+1) c)\/(∃a b,e = .mk 7 [] 0 [] [a,b]/\WE k (x+pb (T9 7 a.kind 0)) a/\WE k (x+pb (T9 7 b.kind 1)) b)\/(∃a b,e = .mk 8 [] 0 [] [a,b]/\WE k (x+1+pb (T9 8 a.kind 0)) a/\WE k (x+1+pb (T9 8 b.kind 1)) b))
section
variable(t:d7)(n:Int)(ks:List d7)(es:List GExpr)(a b:GExpr)
theorem b7Y:L0 (.mk 1 t n ks es)=rpQ t:=by rw[a4Z];rfl
theorem c6A:L0 (.mk 2 t n ks es)=Lib.itoa n:=by rw[a4Z];rfl
theorem c2p:L0 (.mk 3 t n ks es)=t:=by rw[a4Z];rfl
theorem c2q:L0 (.mk 4 t n ks es)=[91]++Lib.join (es.map L0) [44,32] ++ [93]:=by rw[a4Z];rfl
theorem c2r:L0 (.mk 5 t n ks es)=[102,105,108,101,115,40]++Lib.join (es.map L0) [44,32] ++ [41]:=by rw[a4Z];rfl
theorem c2s:L0 (.mk 6 t n ks es)=[99,104,111,111,115,101,32,123]++Lib.join (List.zipWith (fun q p=>rpQ q ++ [58,32]++p) ks (es.map L0)) [44,32] ++ [125]:=by rw[a4Z];rfl
theorem c2t:L0 (.mk 7 t n ks [a,b])=a3M (T9 7 a.kind 0) (L0 a) ++ [32,43,32]++a3M (T9 7 b.kind 1) (L0 b):=by rw[a4Z];rfl
theorem c2u:L0 (.mk 8 t n ks [a,b])=a3M (T9 8 a.kind 0) (L0 a) ++ [32,61,61,32]++a3M (T9 8 b.kind 1) (L0 b):=by rw[a4Z];rfl
theorem c66:s5 (.mk 1 t n ks es)=[(2,t,0)]:=by rw[a5k];rfl
theorem c67:s5 (.mk 2 t n ks es)=[(3,[],n)]:=by rw[a5k];rfl
theorem c68:s5 (.mk 3 t n ks es)=[T4 t]:=by rw[a5k];rfl
theorem c2K:s5 (.mk 4 t n ks es)=[B8 91]++o8 (es.map s5) ++ [B8 93]:=by rw[a5k];rfl
theorem c2L:s5 (.mk 5 t n ks es)=[T4 [102,105,108,101,115],B8 40]++o8 (es.map s5) ++ [B8 41]:=by rw[a5k];rfl
theorem c2M:s5 (.mk 6 t n ks es)=[T4 [99,104,111,111,115,101],B8 123]++o8 (List.zipWith (fun q p=>[(2,q,0),B8 58]++p) ks (es.map s5)) ++ [B8 125]:=by rw[a5k];rfl
theorem c2N:s5 (.mk 7 t n ks [a,b])=O4 (T9 7 a.kind 0) (s5 a) ++ [B8 43]++O4 (T9 7 b.kind 1) (s5 b):=by rw[a5k];rfl
theorem c2O:s5 (.mk 8 t n ks [a,b])=O4 (T9 8 a.kind 0) (s5 a) ++ [(4,[61,61],0)]++O4 (T9 8 b.kind 1) (s5 b):=by rw[a5k];rfl
end
theorem a19(x y:d7)(r:List d7)(sep:d7):Lib.join (x :: y :: r) sep=x++(sep++Lib.join (y :: r) sep):=by
 rw[Lib.join_cons,Lib.join_cons];simp[Lib.joinTail]
theorem c4n{q:d7}(h:A5 q=true):c2W q=true:=by
 cases q with
 |nil=>cases h
 |cons c q=>
  simp only[A5,Bool.and_eq_true]at h;obtain⟨h1,h2,h3,_⟩:=h;have h3':(c :: q).all N4=true:=List.all_eq_true.2 fun x hx=>by
   have:=List.all_eq_true.1 h3 x hx;unfold nmB a2n a9h at this;unfold N4;exact this
  unfold c2W;exact Bool.and_eq_true_iff.2 ⟨Bool.and_eq_true_iff.2 ⟨h2,h3'⟩,h1⟩
theorem a1j{q:d7}(h:A5 q=true):PcA q [T4 q]:=a1Q (c4n h)
theorem b56{s:d7}{ks:List Key}(b:Bool)(h:PcA s ks):PcA (a3M b s) (O4 b ks):=by
 cases b with
 |false=>exact h
 |true=>exact(PcA.app1 ((I7 (by decide:a1v 40=true)).app' h) (I7 (by decide:a1v 41=true)) rfl).lx
theorem c6m:PcB [44,32] [B8 44]:=(I7 (by decide:a1v 44=true)).app a0E
theorem a3I{α:Type}(f:α->d7)(g:α->List Key):∀(l:List α),(∀x∈l,PcA (f x) (g x))->PcA (Lib.join (l.map f) [44,32]) (o8 (l.map g))
 |[],_=>PcB.nil.lx
 |[x],h=>by
  rw[List.map_cons,List.map_nil,Lib.join_one];exact h x (by simp)
 |x :: y :: r,h=>by
  have ih:=a3I f g (y :: r) fun z hz=>h z (List.mem_cons_of_mem _ hz)
  rw[List.map_cons,List.map_cons]at ih ⊢;rw[a19];exact(h x (by simp)).app (c6m.app' ih) rfl
theorem a2S{α β γ δ:Type}(f:α->β->γ)(g:δ->β):∀(ks:List α) (es:List δ),List.zipWith f ks (es.map g)=(ks.zip es).map fun z=>f z.1 (g z.2)
 |[],_=>rfl
 |_ :: _,[]=>rfl
 |k :: ks,e :: es=>by rw[List.map_cons,List.zipWith_cons_cons,a2S f g ks es];rfl
theorem a3H:∀(k x:Nat) (e:GExpr),WE k x e->PcA (L0 e) (s5 e)
 |0,_,_,h=>h.elim
 |k+1,x,e,⟨_,h⟩=>by
  have ih:=fun x e h=>a3H k x e h
  rcases h with⟨t,h1,rfl⟩|⟨n,h1,rfl⟩|⟨t,h1,rfl⟩|⟨es,rfl,h1⟩|⟨a,b,rfl,h1,h2⟩|⟨ks,es,h1,h2,h3,rfl,h4⟩|⟨a,b,rfl,h1,h2⟩|⟨a,b,rfl,h1,h2⟩
  ·rw[b7Y,c66];exact(b57 h1).lx
  ·rw[c6A,c67];have:Lib.itoa (n:Int)=Lib.decDigits n:=by unfold Lib.itoa;rw[if_neg (by omega)];simp
   rw[this];exact d5b h1
  ·rw[c2p,c68];exact a1j h1
  ·rw[c2q,c2K];exact(PcA.app1 ((I7 (by decide:a1v 91=true)).app' (a3I L0 s5 es fun c hc=>ih _ c (h1 c hc))) (I7 (by decide:a1v 93=true)) rfl).lx
  ·rw[c2r,c2L];have hj:=a3I L0 s5 [a,b] fun c hc=>by
    simp only[List.mem_cons,List.mem_nil_iff,or_false]at hc;rcases hc with rfl|rfl
    ·exact ih _ _ h1
    ·exact ih _ _ h2
   have hw:PcB ([102,105,108,101,115] ++ [40]) ([T4 [102,105,108,101,115]] ++ [B8 40]):=PcA.app1 (a1Q (by decide)) (I7 (by decide:a1v 40=true)) rfl;exact(PcA.app1 (hw.app' hj) (I7 (by decide:a1v 41=true)) rfl).lx
  ·rw[c2s,c2M,a2S,a2S];have hj:=a3I (fun z:d7×GExpr=>rpQ z.1 ++ [58,32]++L0 z.2) (fun z=>[(2,z.1,0),B8 58]++s5 z.2) (ks.zip es) fun z hz=>by
    have m:=List.of_mem_zip hz;have hq:PcB (rpQ z.1 ++ [58,32]) ([(2,z.1,0)] ++ [B8 58]):=(b57 (h3 _ m.1)).app ((I7 (by decide:a1v 58=true)).app a0E);exact hq.app' (ih _ _ (h4 _ m.2))
   have hw:PcB ([99,104,111,111,115,101] ++ [32,123]) ([T4 [99,104,111,111,115,101]] ++ [B8 123]):=PcA.app1 (a1Q (by decide)) (a0E.app (I7 (by decide:a1v 123=true))) rfl;exact(PcA.app1 (hw.app' hj) (I7 (by decide:a1v 125=true)) rfl).lx
  ·rw[c2t,c2N];have hm:PcB [32,43,32] [B8 43]:=a0E.app ((I7 (by decide:a1v 43=true)).app a0E);exact(PcA.app1 (b56 _ (ih _ _ h1)) hm rfl).app' (b56 _ (ih _ _ h2))
  ·rw[c2u,c2O];have hm:PcB [32,61,61,32] [(4,[61,61],0)]:=a0E.app (d1Y.app a0E);exact(PcA.app1 (b56 _ (ih _ _ h1)) hm rfl).app' (b56 _ (ih _ _ h2))
def lnS(d:Nat)(s:d7):d7:=List.replicate (2*d) 32++s ++ [10]
def a3v(f:GExpr->d7)(q:d7×GExpr):d7:=q.1 ++ [32,61,32]++f q.2
mutual
def prS:GStmt->Nat->d7 | .mk k q t ps ag E b l a,d=>if k=1 then lnS d (q ++ [32,61,32]++L0 E ++ [59])else if k=2 then lnS d (q ++ [40]++Lib.join (ag.map (a3v L0)) [44,32] ++ [41,59])else if k=3 then lnS d ([109,97,99,114,111,32]++q ++ [40]++Lib.join ps [44,32] ++ [41] ++ [32,123])++(R3 b (d+1)++lnS d [125])else if k=4 then lnS d ([102,111,114,32]++q ++ [32,105,110,32]++L0 E ++ [32,123])++(R3 b (d+1)++lnS d [125])else if k=5 then lnS d ([105,102,32]++L0 E ++ [32,123])++(R3 b (d+1)++((if l.isEmpty then []else lnS d ([125,32,101,108,115,101] ++ [32,123])++R3 l (d+1))++lnS d [125]))else if k=6 then lnS d ([117,115,101,32]++rpQ t ++ [59])else []
def R3:List GStmt->Nat->d7 | [],_=>[]|s :: l,d=>prS s d++R3 l d
end
def a1D(f:GExpr->List Key)(q:d7×GExpr):List Key:=[T4 q.1,B8 61]++f q.2
mutual
def tkS:GStmt->List Key | .mk k q t ps ag E b l a=>if k=1 then [T4 q,B8 61]++s5 E ++ [B8 59]else if k=2 then [T4 q,B8 40]++o8 (ag.map (a1D s5)) ++ [B8 41,B8 59]else if k=3 then [T4 [109,97,99,114,111],T4 q,B8 40]++o8 (ps.map fun p=>[T4 p]) ++ [B8 41,B8 123]++(H2 b ++ [B8 125])else if k=4 then [T4 [102,111,114],T4 q,T4 [105,110]]++s5 E ++ [B8 123]++(H2 b ++ [B8 125])else if k=5 then [T4 [105,102]]++s5 E ++ [B8 123]++(H2 b++((if l.isEmpty then []else [B8 125,T4 [101,108,115,101],B8 123]++H2 l) ++ [B8 125]))else if k=6 then [T4 [117,115,101],(2,t,0),B8 59]else []
def H2:List GStmt->List Key | []=>[]|s :: l=>tkS s++H2 l
end
theorem a40(d:Nat):R3 [] d=[]:=by rw[R3]
theorem a0F(s:GStmt)(l:List GStmt)(d:Nat):R3 (s :: l) d=prS s d++R3 l d:=by rw[R3]
theorem a5m:H2 []=[]:=by rw[H2]
theorem T6(s:GStmt)(l:List GStmt):H2 (s :: l)=tkS s++H2 l:=by rw[H2]
def WS:Nat->Nat->GStmt->Prop|0,_,_=>False|k+1,x,s=>x<30/\((∃q E a m,A5 q=true/\WE m (x+1) E/\s = .mk 1 q [] [] [] E [] [] a)\/(∃q ag a m,A5 q=true/\(∀c∈ag,A5 c.1=true/\WE m (x+1) c.2)/\s = .mk 2 q [] [] ag zE [] [] a)\/(∃q ps b a,A5 q=true/\(∀c∈ps,A5 c=true)/\(∀c∈b,WS k (x+1) c)/\s = .mk 3 q [] ps [] zE b [] a)\/(∃q E b a m,A5 q=true/\WE m (x+1) E/\(∀c∈b,WS k (x+1) c)/\s = .mk 4 q [] [] [] E b [] a)\/(∃E b l a m,WE m (x+1) E/\(∀c∈b,WS k (x+1) c)/\(∀c∈l,WS k (x+1) c)/\s = .mk 5 [] [] [] [] E b l a)\/(∃(t:d7) (a:Int),t.all V5=true/\s = .mk 6 [] t [] [] zE [] [] a))
section
variable(q t:d7)(ps:List d7)(ag:List (d7×GExpr))(E:GExpr)(b l:List GStmt)(a:Int)(d:Nat)
theorem b70:prS (.mk 1 q t ps ag E b l a) d=lnS d (q ++ [32,61,32]++L0 E ++ [59]):=by rw[prS];rfl
theorem b71:prS (.mk 2 q t ps ag E b l a) d=lnS d (q ++ [40]++Lib.join (ag.map (a3v L0)) [44,32] ++ [41,59]):=by rw[prS];rfl
theorem b72:prS (.mk 3 q t ps ag E b l a) d=lnS d ([109,97,99,114,111,32]++q ++ [40]++Lib.join ps [44,32] ++ [41] ++ [32,123])++(R3 b (d+1)++lnS d [125]):=by rw[prS];rfl
theorem b73:prS (.mk 4 q t ps ag E b l a) d=lnS d ([102,111,114,32]++q ++ [32,105,110,32]++L0 E ++ [32,123])++(R3 b (d+1)++lnS d [125]):=by rw[prS];rfl
theorem b74:prS (.mk 5 q t ps ag E b l a) d=lnS d ([105,102,32]++L0 E ++ [32,123])++(R3 b (d+1)++((if l.isEmpty then []else lnS d ([125,32,101,108,115,101] ++ [32,123])++R3 l (d+1))++lnS d [125])):=by rw[prS];rfl
theorem b75:prS (.mk 6 q t ps ag E b l a) d=lnS d ([117,115,101,32]++rpQ t ++ [59]):=by rw[prS];rfl
theorem c7a:tkS (.mk 1 q t ps ag E b l a)=[T4 q,B8 61]++s5 E ++ [B8 59]:=by rw[tkS];rfl
theorem c2P:tkS (.mk 2 q t ps ag E b l a)=[T4 q,B8 40]++o8 (ag.map (a1D s5)) ++ [B8 41,B8 59]:=by rw[tkS];rfl
theorem c7b:tkS (.mk 3 q t ps ag E b l a)=[T4 [109,97,99,114,111],T4 q,B8 40]++o8 (ps.map fun p=>[T4 p]) ++ [B8 41,B8 123]++(H2 b ++ [B8 125]):=by rw[tkS];rfl
theorem c7c:tkS (.mk 4 q t ps ag E b l a)=[T4 [102,111,114],T4 q,T4 [105,110]]++s5 E ++ [B8 123]++(H2 b ++ [B8 125]):=by rw[tkS];rfl
theorem c7d:tkS (.mk 5 q t ps ag E b l a)=[T4 [105,102]]++s5 E ++ [B8 123]++(H2 b++((if l.isEmpty then []else [B8 125,T4 [101,108,115,101],B8 123]++H2 l) ++ [B8 125])):=by rw[tkS];rfl
theorem c7e:tkS (.mk 6 q t ps ag E b l a)=[T4 [117,115,101],(2,t,0),B8 59]:=by rw[tkS];rfl
end
theorem b0d{s:d7}{ks:List Key}(d:Nat)(h:PcA s ks):PcB (lnS d s) ks:=by
 have h1:PcA (List.replicate (2*d) 32++s) ([]++ks):=(c6n _).app' h;have h2:=PcA.app1 h1 d7i rfl;rw[List.nil_append,List.append_nil]at h2;exact h2
theorem b0D:PcB [32,123] [B8 123]:=a0E.app (I7 (by decide:a1v 123=true))
theorem b1I{k x d:Nat}(ih:∀c,WS k x c->PcB (prS c d) (tkS c)):∀l:List GStmt,(∀c∈l,WS k x c)->PcB (R3 l d) (H2 l)
 |[],_=>by rw[a40,a5m];exact PcB.nil
 |s :: l,h=>by
  rw[a0F,T6];exact(ih s (h s (by simp))).app (b1I ih l fun c hc=>h c (List.mem_cons_of_mem _ hc))
theorem c2k:∀(k x:Nat) (s:GStmt),WS k x s->∀d,PcB (prS s d) (tkS s)
 |0,_,_,h,_=>h.elim
 |k+1,x,s,⟨_,h⟩,d=>by
  have ihs:=fun(l:List GStmt) (hl:∀c∈l,WS k (x+1) c)=>b1I (d:=d+1) (fun c hc=>c2k k (x+1) c hc (d+1)) l hl
  have hcl:PcB (lnS d [125]) [B8 125]:=b0d d (I7 (by decide:a1v 125=true)).lx;have heq:PcB [32,61,32] [B8 61]:=by
   have h1:PcB ([61] ++ [32]) ([B8 61] ++ []):=PcA.app1 d39 a0E rfl;exact a0E.app h1
  rcases h with⟨q,E,a,m,h1,h2,rfl⟩|⟨q,ag,a,m,h1,h2,rfl⟩|⟨q,ps,b,a,h1,h2,h3,rfl⟩|⟨q,E,b,a,m,h1,h2,h3,rfl⟩|⟨E,b,l,a,m,h1,h2,h3,rfl⟩|⟨t,a,h1,rfl⟩
  ·rw[b70,c7a];exact b0d d (PcA.app1 ((PcA.app1 (a1j h1) heq rfl).app' (a3H _ _ _ h2)) (I7 (by decide:a1v 59=true)) rfl).lx
  ·rw[b71,c2P];have hj:=a3I (a3v L0) (a1D s5) ag fun c hc=>(PcA.app1 (a1j (h2 c hc).1) heq rfl).app' (a3H _ _ _ (h2 c hc).2)
   have h3:PcB [41,59] [B8 41,B8 59]:=(I7 (by decide:a1v 41=true)).app (I7 (by decide:a1v 59=true));exact b0d d (PcA.app1 ((PcA.app1 (a1j h1) (I7 (by decide:a1v 40=true)) rfl).app' hj) h3 rfl).lx
  ·rw[b72,c7b];have hj:=a3I (fun p:d7=>p) (fun p=>[T4 p]) ps fun c hc=>a1j (h2 c hc)
   rw[List.map_id']at hj;have hm:PcB ([109,97,99,114,111] ++ [32]) ([T4 [109,97,99,114,111]] ++ []):=PcA.app1 (a1Q (by decide)) a0E rfl;have h4:=(PcA.app1 (PcA.app1 ((PcA.app1 (hm.app' (a1j h1)) (I7 (by decide:a1v 40=true)) rfl).app' hj) (I7 (by decide:a1v 41=true)) rfl).lx b0D rfl).lx;have h5:=(b0d d h4).app ((ihs b h3).app hcl);simpa using h5
  ·rw[b73,c7c];have hm:PcB ([102,111,114] ++ [32]) ([T4 [102,111,114]] ++ []):=PcA.app1 (a1Q (by decide)) a0E rfl;have hi:PcB ([32]++([105,110] ++ [32])) ([]++([T4 [105,110]] ++ [])):=a0E.app (PcA.app1 (a1Q (by decide)) a0E rfl);have h4:=(PcA.app1 ((PcA.app1 (hm.app' (a1j h1)) hi rfl).app' (a3H _ _ _ h2)) b0D rfl).lx;have h5:=(b0d d h4).app ((ihs b h3).app hcl);simpa using h5
  ·rw[b74,c7d];have hm:PcB ([105,102] ++ [32]) ([T4 [105,102]] ++ []):=PcA.app1 (a1Q (by decide)) a0E rfl;have h4:=(PcA.app1 (hm.app' (a3H _ _ _ h1)) b0D rfl).lx;have he:PcB (if l.isEmpty then []else lnS d ([125,32,101,108,115,101] ++ [32,123])++R3 l (d+1)) (if l.isEmpty then []else [B8 125,T4 [101,108,115,101],B8 123]++H2 l):=by
    cases l with
    |nil=>exact PcB.nil
    |cons c l=>
     have h6:PcB ([125]++([32] ++ [])) ([B8 125]++([] ++ [])):=(I7 (by decide:a1v 125=true)).app (a0E.app PcB.nil);have h7:=(PcA.app1 (h6.app' (a1Q (q:=[101,108,115,101]) (by decide))) b0D rfl).lx;exact(b0d d h7).app (ihs _ h3)
   have h5:=(b0d d h4).app ((ihs b h2).app (he.app hcl));simpa using h5
  ·rw[b75,c7e];have hm:PcB ([117,115,101] ++ [32]) ([T4 [117,115,101]] ++ []):=PcA.app1 (a1Q (by decide)) a0E rfl;have h4:=(hm.app (b57 h1)).app (I7 (by decide:a1v 59=true));exact b0d d h4.lx
theorem d1Z{k:Nat}{l:List GStmt}(h:∀c∈l,WS k 0 c):LK (R3 l 0) (H2 l):=by
 have:=b1I (fun c hc=>c2k k 0 c hc 0) l h [] [] (.nil rfl);simpa using this
end
section
variable{N:Nat}
def At(w:List A6)(i:Nat)(ks:List Key):Prop:=∃r,(w.drop i).map d48=ks++r
section
variable{w:List A6}{i:Nat}
theorem At.app{a b:List Key}(h:At w i (a++b)):At w i a/\At w (i+a.length) b:=by
 obtain⟨r,h⟩:=h;refine⟨⟨b++r,by rw[h,List.append_assoc]⟩,r,?_⟩;have:=congrArg (List.drop a.length) h;rw[<-List.map_drop,List.drop_drop,List.append_assoc,List.drop_left]at this;exact this
theorem At.lt{q:Key}{ks:List Key}(h:At w i (q :: ks)):i<w.length:=by
 obtain⟨r,h⟩:=h;have:=congrArg List.length h;simp at this;omega
theorem At.le{ks:List Key}(h:At w i ks)(h0:ks ≠ []):i+ks.length<=w.length:=by
 obtain⟨r,h⟩:=h;have h1:=congrArg List.length h;have h2:=List.length_pos_iff.2 h0;simp at h1;omega
theorem At.hd{k n:Int}{t:d7}{ks:List Key}(h:At w i ((k,t,n) :: ks)):∃hi:i<w.length,w[i].1=k/\w[i].2.1=t/\w[i].2.2.1=n:=by
 have hi:=h.lt;obtain⟨r,h⟩:=h;rw[List.drop_eq_getElem_cons hi,List.map_cons,List.cons_append]at h;have h1:=(List.cons.inj h).1;unfold d48 at h1;simp only[Prod.mk.injEq]at h1;exact⟨hi,h1⟩
theorem At.tl{q:Key}{ks:List Key}(h:At w i (q :: ks)):At w (i+1) ks:=(At.app (a:=[q]) h).2
theorem At.is{k n:Int}{t:d7}{ks:List Key}(h:At w i ((k,t,n) :: ks))(k':Int)(t':d7):I9 w i k' t'=(k==k'&&t==t'):=by
 obtain⟨hi,h1,h2,_⟩:=h.hd;rw[a9n hi,h1,h2]
theorem At.sign{c:UInt8}{ks:List Key}(h:At w i (B8 c :: ks)):I9 w i 4 [c]=true:=by rw[h.is];simp
theorem At.word{q:d7}{ks:List Key}(h:At w i (T4 q :: ks)):I9 w i 1 q=true:=by rw[h.is];simp
theorem At.name{q:d7}{ks:List Key}(h:At w i (T4 q :: ks))(hq:A5 q=true):Q1 w i=some q:=by
 obtain⟨hi,h1,h2,_⟩:=h.hd;unfold Q1;rw[List.getElem?_eq_getElem hi];simp[h1,h2,hq]
theorem At.text{t:d7}{n:Int}{ks:List Key}(h:At w i ((2,t,n) :: ks)):a2q w i=some t:=by
 obtain⟨hi,h1,h2,_⟩:=h.hd;unfold a2q;rw[List.getElem?_eq_getElem hi];simp[h1,h2]
end
theorem a0n{q s:d7}(h:A5 q=true)(hs:s∈a4t):q≠s:=by
 rintro rfl;cases q with
 |nil=>cases h
 |cons c q=>
  simp only[A5,Bool.and_eq_true,Bool.not_eq_true']at h;have:=List.any_eq_false.1 h.2.2.2 _ hs;simp at this
def b6A(q:Key):Bool:=q.1 !=4||q.2.1==[40]||q.2.1==[91]
theorem b7T{s:List Key}(b:Bool)(h:∃q ks,s=q :: ks/\b6A q=true):∃q ks,O4 b s=q :: ks/\b6A q=true:=by
 cases b with
 |false=>exact h
 |true=>exact⟨_,_,rfl,by decide⟩
theorem b0O:∀(k x:Nat) (e:GExpr),WE k x e->∃q ks,s5 e=q :: ks/\b6A q=true
 |0,_,_,h=>h.elim
 |k+1,x,e,⟨_,h⟩=>by
  rcases h with⟨t,h1,rfl⟩|⟨n,h1,rfl⟩|⟨t,h1,rfl⟩|⟨es,rfl,h1⟩|⟨a,b,rfl,h1,h2⟩|⟨ks,es,h1,h2,h3,rfl,h4⟩|⟨a,b,rfl,h1,h2⟩|⟨a,b,rfl,h1,h2⟩
  ·rw[c66];exact⟨_,_,rfl,rfl⟩
  ·rw[c67];exact⟨_,_,rfl,rfl⟩
  ·rw[c68];exact⟨_,_,rfl,rfl⟩
  ·rw[c2K];exact⟨_,_,rfl,by decide⟩
  ·rw[c2L];exact⟨_,_,rfl,by decide⟩
  ·rw[c2M];exact⟨_,_,rfl,by decide⟩
  ·rw[c2N];obtain⟨q,l,g1,g2⟩:=b7T (T9 7 a.kind 0) (b0O k _ a h1);rw[g1];exact⟨q,_,rfl,g2⟩
  ·rw[c2O];obtain⟨q,l,g1,g2⟩:=b7T (T9 8 a.kind 0) (b0O k _ a h1);rw[g1];exact⟨q,_,rfl,g2⟩
theorem Y5{k x:Nat}{e:GExpr}(h:WE k x e):0<(s5 e).length:=by
 obtain⟨q,l,g1,_⟩:=b0O k x e h;rw[g1];simp
theorem At.start{w:List A6}{i k x:Nat}{e:GExpr}{r:List Key}(h:WE k x e)(ha:At w i (s5 e++r)){c:UInt8}(hc:c≠40/\c≠91):I9 w i 4 [c]=false:=by
 obtain⟨⟨a,b,n⟩,l,g1,g2⟩:=b0O k x e h;rw[g1]at ha;rw[At.is (ks:=l++r) ha];unfold b6A at g2;by_cases h4:a=4
 ·subst h4;have:b=[40]\/b=[91]:=by simpa using g2
  rcases this with rfl|rfl
  ·simp[Ne.symm hc.1]
  ·simp[Ne.symm hc.2]
 ·simp[h4]
def c2C(w:List A6)(j:Nat):Prop:=I9 w j 4 [43]=false/\I9 w j 4 [61,61]=false
theorem At.stop{w:List A6}{i:Nat}{c:UInt8}{ks:List Key}(h:At w i (B8 c :: ks))(hc:c≠43):c2C w i:=by
 refine⟨?_,?_⟩
 ·rw[h.is];simp[hc]
 ·rw[h.is];simp
def Mok(c:Nat)(T:Mk):Prop:=∀m∈T,0<=m.1/\0<=m.2/\m.2+(c:Int)<30
theorem Mok.nil{c:Nat}:Mok c []:=fun m h=>by simp at h
theorem Mok.app{c:Nat}{T U:Mk}(h:Mok c T)(g:Mok c U):Mok c (T++U):=fun m hm=>by
 rcases List.mem_append.1 hm with hm|hm
 ·exact h m hm
 ·exact g m hm
theorem Mok.up{c:Nat}{T:Mk}(h:Mok (c+1) T):Mok c (T.map (sh 1)):=fun m hm=>by
 obtain⟨y,hy,rfl⟩:=List.mem_map.1 hm;have:=h y hy;unfold sh;exact⟨this.1,by simp only;omega,by simp only;omega⟩
def c5t(w:List A6)(e0:Int)(F:RX)(y c i:Nat)(E:GExpr)(j:Nat):Prop:=∀(M:Mk) (p:Int),M.length<=i->∃T:Mk,Mok c T/\T.length+i<=j/\F (y:Int) (i:Int) e0 false p w M=some (E,(j:Int),e0,false,p,w,M++T)
def a2B(w:List A6)(e0:Int)(F:RX)(L:Nat):Prop:=∀(k x y c:Nat) (e:GExpr) (i:Nat),x=y+c->WE k x e->(s5 e).length<L->At w i (s5 e)->c2C w (i+(s5 e).length)->c5t w e0 F y c i e (i+(s5 e).length)
theorem a1o(x y:List Key)(r:List (List Key)):o8 (x :: y :: r)=x++([B8 44]++o8 (y :: r)):=rfl
theorem a9o:∀{l:List (List Key)} {s:List Key},s∈l->s.length<=(o8 l).length
 |[x],s,h=>by rw[List.mem_singleton.1 h];exact Nat.le_refl _
 |x :: y :: r,s,h=>by
  rw[a1o];simp only[List.length_append];rcases List.mem_cons.1 h with rfl|h
  ·omega
  ·have:=a9o h;omega
theorem a3h:∀{l:List (List Key)},(∀s∈l,0<s.length)->l.length<=(o8 l).length
 |[],_=>Nat.le_refl _
 |[x],h=>h x (by simp)
 |x :: y :: r,h=>by
  rw[a1o];have:=a3h (l:=y :: r) fun s hs=>h s (List.mem_cons_of_mem _ hs)
  have h1:=h x (by simp);simp only[List.length_append,List.length_cons]at this ⊢;omega
section
variable{w:List A6}{e0:Int}{R:RX}{L:Nat}
theorem a5r{y:Nat}(h:y<=1000):IntKind.i64.wrap ((y:Int)+1)=((y+1:Nat):Int):=a00 (by omega) (by omega)
theorem a9u{n:Nat}{x1:Int}{k1:Int->Int->Bool->Int->List A6->Mk->List GExpr->RO}{a e p:Int}{b:Bool}{M:Mk}{ys:List GExpr}:
  x6 N R x1 k1 (n+1) a e b p w M ys=D5 N R x1 k1 (x6 N R x1 k1 n) a e b p w M ys:=rfl
theorem b7F(V:Wc N w e0)(hR:a2B w e0 R L){k x y c:Nat}(hx:x=y+c)(hy:y<30){K:Int->Int->Bool->Int->List A6->Mk->List GExpr->RO}{p:Int}:
  ∀(es:List GExpr) (f i:Nat) (M:Mk) (ys:List GExpr) (r:List Key),es ≠ []->(∀d∈es,WE k (x+1) d/\(s5 d).length<L)->es.length<f->M.length<=i->ys.length<=i->At w i (o8 (es.map s5)++B8 93 :: r)->
  ∃T,Mok c T/\T.length<=(o8 (es.map s5)).length/\x6 N R (y:Int) K f (i:Int) e0 false p w M ys=K ((i+(o8 (es.map s5)).length:Nat):Int) e0 false p w (M++T) (ys++es)
 |[],_,_,_,_,_,h0,_,_,_,_,_=>absurd rfl h0
 |[e],f,i,M,ys,r,_,hes,hf,hM,hys,ha=>by
  obtain⟨f,rfl⟩:∃q,f=q+1:=⟨f-1,by simp at hf;omega⟩;obtain⟨he,hl⟩:=hes e (by simp);have hwl:=V.wl;simp only[List.map_cons,List.map_nil,o8]at ha ⊢;have h93:=At.start he ha (c:=93) (by decide);obtain⟨a1,a2⟩:=ha.app;have hle:=a1.le (by have:=Y5 he;intro h;rw[h]at this;simp at this);obtain⟨T,t1,t2,t3⟩:=hR k (x+1) (y+1) c e i (by omega) he hl a1 (a2.stop (by decide)) M p hM;refine⟨T,t1,by omega,?_⟩;have hc:I9 w (i+(s5 e).length) 4 [44]=false:=by rw[a2.is];decide
  have fitE':=a6X (l:=ys) (z:=e) (by omega);rw[a9u];unfold D5;simp only[Bool.not_false,d8,S5,h93,d2,a5r (show y<=1000 by omega),t3,GExpr.eta,fitE',o5 hc,ite_self];cases decide ((ys.length:Int)>0)<;>simp only[d8,d9]
 |e :: e' :: es,f,i,M,ys,r,_,hes,hf,hM,hys,ha=>by
  obtain⟨f,rfl⟩:∃q,f=q+1:=⟨f-1,by simp at hf;omega⟩;obtain⟨he,hl⟩:=hes e (by simp);have hwl:=V.wl;rw[List.map_cons,List.map_cons,a1o,<-List.map_cons]at ha ⊢;rw[List.append_assoc]at ha;have h93:=At.start he ha (c:=93) (by decide);obtain⟨a1,a2⟩:=ha.app;have hle:=a1.le (by have:=Y5 he;intro h;rw[h]at this;simp at this);have hp:=Y5 he;obtain⟨T,t1,t2,t3⟩:=hR k (x+1) (y+1) c e i (by omega) he hl a1 (At.stop (c:=44) (ks:=o8 (List.map s5 (e' :: es))++B8 93 :: r) a2 (by decide)) M p hM;have hc:I9 w (i+(s5 e).length) 4 [44]=true:=At.sign (ks:=o8 (List.map s5 (e' :: es))++B8 93 :: r) a2;have fitE':=a6X (l:=ys) (z:=e) (by omega);obtain⟨U,u1,u2,u3⟩:=b7F V hR hx hy (K:=K) (p:=p) (e' :: es) f (i+(s5 e).length+1) (M++T) (ys ++ [e]) r (by simp) (fun d hd=>hes d (List.mem_cons_of_mem _ hd)) (by simp at hf ⊢;omega) (by rw[List.length_append];omega) (by rw[List.length_append];simp;omega) (At.tl (q:=B8 44) a2);refine⟨T++U,t1.app u1,by simp only[List.length_append,List.length_cons,List.length_nil];omega,?_⟩;rw[a9u];unfold D5;simp only[Bool.not_false,d8,S5,h93,d2,a5r (show y<=1000 by omega),t3,GExpr.eta,fitE',C8 V.wl hc,Bool.not_true,d9];rw[u3];have e1:i+(s5 e++([B8 44]++o8 (List.map s5 (e' :: es)))).length=i+(s5 e).length+1+(o8 (List.map s5 (e' :: es))).length:=by simp only[List.length_append,List.length_cons,List.length_nil];omega
  rw[e1,List.append_assoc,List.append_assoc];cases decide ((ys.length:Int)>0)<;>simp only[d8,d9,List.cons_append,List.nil_append]
abbrev KC:Type:=Int->Int->Bool->Int->List A6->Mk->List d7->List GExpr->RO
theorem b7g(V:Wc N w e0)(hR:a2B w e0 R L){k x y c:Nat}(hx:x=y+c)(hy:y<30){K:KC}{p:Int}:
  ∀(zs:List (d7×GExpr)) (f i:Nat) (M:Mk) (ks:List d7) (ys:List GExpr) (r:List Key),zs ≠ []->(∀d∈zs,WE k (x+1) d.2/\(s5 d.2).length<L)->zs.length<f->M.length<=i->ks.length<=i->ys.length<=i->At w i (o8 (zs.map fun z=>[(2,z.1,0),B8 58]++s5 z.2)++B8 125 :: r)->
  ∃T,Mok c T/\T.length<=(o8 (zs.map fun z=>[(2,z.1,0),B8 58]++s5 z.2)).length/\s8 N R (y:Int) K f (i:Int) e0 false p w M ks ys=K ((i+(o8 (zs.map fun z=>[(2,z.1,0),B8 58]++s5 z.2)).length:Nat):Int) e0 false p w (M++T) (ks++zs.map (·.1)) (ys++zs.map (·.2))
 |[],_,_,_,_,_,_,h0,_,_,_,_,_,_=>absurd rfl h0
 |(q,e) :: zs,f,i,M,ks,ys,r,_,hes,hf,hM,hks,hys,ha=>by
  obtain⟨f,rfl⟩:∃q,f=q+1:=⟨f-1,by simp at hf;omega⟩;obtain⟨he,hl⟩:=hes (q,e) (by simp);have hwl:=V.wl;have hp:=Y5 he;obtain⟨rest,hrest,hcase⟩:∃rest,(o8 (List.map (fun z:d7×GExpr=>[((2:Int),z.1,(0:Int)),B8 58]++s5 z.2) ((q,e) :: zs))++B8 125 :: r=((2:Int),q,(0:Int)) :: B8 58 :: (s5 e++rest))/\((zs=[]/\rest=B8 125 :: r)\/(zs ≠ []/\rest=B8 44 :: (o8 (List.map (fun z:d7×GExpr=>[((2:Int),z.1,(0:Int)),B8 58]++s5 z.2) zs)++B8 125 :: r))):=by
   cases zs with
   |nil=>exact⟨_,rfl,.inl ⟨rfl,rfl⟩⟩
   |cons z zs=>exact⟨_,by rw[List.map_cons,List.map_cons,a1o];simp,.inr ⟨by simp,rfl⟩⟩
  rw[hrest]at ha;have b1:=ha.tl;have b2:=b1.tl;have b3:=b2.app;have hle:=b3.1.le (by intro h;rw[h]at hp;simp at hp);have hst:c2C w (i+1+1+(s5 e).length):=by
   rcases hcase with⟨_,hr⟩|⟨_,hr⟩
   ·rw[hr]at b3;exact b3.2.stop (by decide)
   ·rw[hr]at b3;exact b3.2.stop (by decide)
  obtain⟨T,t1,t2,t3⟩:=hR k (x+1) (y+1) c e (i+1+1) (by omega) he hl b3.1 hst M p (by omega);have fitE':=a6X (l:=ys) (z:=e) (by omega);have fitS':=a9j (l:=ks) (z:=q) (by omega);have step:s8 N R (y:Int) K (f+1) (i:Int) e0 false p w M ks ys=j8 (k9 N (4:Int) ([44]:d7) ((i+1+1+(s5 e).length:Nat):Int) e0 false p w (M++T)) fun t37=>
    br (!t37.1) (K t37.2.1 t37.2.2.1 t37.2.2.2.1 t37.2.2.2.2.1 t37.2.2.2.2.2.1 t37.2.2.2.2.2.2 (ks ++ [q]) (ys ++ [e])) (s8 N R (y:Int) K f t37.2.1 t37.2.2.1 t37.2.2.2.1 t37.2.2.2.2.1 t37.2.2.2.2.2.1 t37.2.2.2.2.2.2 (ks ++ [q]) (ys ++ [e])):=by
   show o6 N R (y:Int) K (s8 N R (y:Int) K f) (i:Int) e0 false p w M ks ys=_;unfold o6;simp only[Bool.not_false,d8,a7Q V.wl ha.text,d2,t6 V.wl b1.sign,a5r (show y<=1000 by omega),t3,GExpr.eta,fitE',fitS',v8,o3]
  rcases hcase with⟨rfl,hr⟩|⟨hz,hr⟩
  ·rw[hr]at b3;have hc:I9 w (i+1+1+(s5 e).length) 4 [44]=false:=by rw[b3.2.is];decide
   refine⟨T,t1,by simp only[List.map_cons,List.map_nil,o8,List.length_append,List.length_cons,List.length_nil];omega,?_⟩;rw[step,o5 hc,d2];simp only[Bool.not_false,d8,List.map_cons,List.map_nil,o8,List.length_append,List.length_cons,List.length_nil];rw[show i+1+1+(s5 e).length=i+(0+1+1+(s5 e).length) by omega]
  ·rw[hr]at b3;have hc:I9 w (i+1+1+(s5 e).length) 4 [44]=true:=b3.2.sign;obtain⟨U,u1,u2,u3⟩:=b7g V hR hx hy (K:=K) (p:=p) zs f (i+1+1+(s5 e).length+1) (M++T) (ks ++ [q]) (ys ++ [e]) r hz (fun d hd=>hes d (List.mem_cons_of_mem _ hd)) (by simp at hf ⊢;omega) (by rw[List.length_append];omega) (by rw[List.length_append];simp;omega) (by rw[List.length_append];simp;omega) b3.2.tl;have hlen:(o8 (List.map (fun z:d7×GExpr=>[((2:Int),z.1,(0:Int)),B8 58]++s5 z.2) ((q,e) :: zs))).length=2+(s5 e).length+1+(o8 (List.map (fun z:d7×GExpr=>[((2:Int),z.1,(0:Int)),B8 58]++s5 z.2) zs)).length:=by
    have:=congrArg List.length hrest;rw[hr]at this;simp only[List.length_append,List.length_cons]at this;omega
   refine⟨T++U,t1.app u1,by rw[List.length_append,hlen];omega,?_⟩;rw[step,C8 V.wl hc,d2];simp only[Bool.not_true,d9];rw[u3,hlen,show i+(2+(s5 e).length+1+(o8 (List.map (fun z:d7×GExpr=>[((2:Int),z.1,(0:Int)),B8 58]++s5 z.2) zs)).length)=i+1+1+(s5 e).length+1+(o8 (List.map (fun z:d7×GExpr=>[((2:Int),z.1,(0:Int)),B8 58]++s5 z.2) zs)).length by omega];simp
theorem c6f:([102,105,108,101,115]:d7)∈a4t/\([99,104,111,111,115,101]:d7)∈a4t:=by decide
theorem b6a(V:Wc N w e0)(i:Nat){x y c:Nat}(hx:x=y+c)(hx2:x<30):Mok c [(S9 w i e0,(y:Int))]:=fun m hm=>by
 rw[List.mem_singleton.1 hm];exact⟨b5R V.wok V.e0 i,by simp only;omega,by simp only;omega⟩
theorem d14(V:Wc N w e0)(hR:a2B w e0 R L){k x y c i:Nat}{e:GExpr}(hx:x=y+c)(hx2:x<30)(he:WE k (x+1) e)(hl:(s5 e).length<L)(ha:At w i ([B8 40]++s5 e ++ [B8 41])):
  c5t w e0 (s7 N R) y c i e (i+([B8 40]++s5 e ++ [B8 41]).length):=by
 intro M p hM;have hwl:=V.wl;rw[List.append_assoc]at ha;have hi:i<w.length:=At.lt (q:=B8 40) ha;obtain⟨_,h1,h2,_⟩:=At.hd (k:=4) (t:=[40]) (n:=0) (ks:=s5 e ++ [B8 41]) ha;have b0:I9 w i 4 [40]=true:=At.sign (ks:=s5 e ++ [B8 41]) ha;have a1:At w (i+1) (s5 e ++ [B8 41]):=At.tl (q:=B8 40) ha;obtain⟨a2,a3⟩:=a1.app;have hp:=Y5 he;have hM1:(M ++ [(S9 w i e0,(y:Int))]).length<=i+1:=by simp;omega
 obtain⟨T,t1,t2,t3⟩:=hR k (x+1) (y+1) c e (i+1) (by omega) he hl a2 (a3.stop (by decide)) (M ++ [(S9 w i e0,(y:Int))]) p hM1;refine⟨[(S9 w i e0,(y:Int))]++T,(b6a V i hx hx2).app t1,by simp only[List.length_append,List.length_cons,List.length_nil];omega,?_⟩;unfold s7;rw[d9,a1u (by omega),d2];simp only;rw[decide_eq_false (show ¬(i:Int)>=(w.length:Int) by omega),d9,p6 _ hi,d2,h1];simp only[show((4:Int)==2)=false by decide,show((4:Int)==3)=false by decide,d9,C8 V.wl b0,d2,d8,a5r (show y<=1000 by omega),t3,t6 V.wl a3.sign,GExpr.eta];rw[show i+([B8 40]++s5 e ++ [B8 41]).length=i+1+(s5 e).length+1 by simp only[List.length_append,List.length_cons,List.length_nil];omega,List.append_assoc]
theorem b7R(V:Wc N w e0)(hR:a2B w e0 R L){k x y c i:Nat}{e:GExpr}(hx:x=y+c)(he:WE (k+1) x e)(h7:e.kind≠7)(h8:e.kind≠8)(hl:(s5 e).length<=L)(ha:At w i (s5 e)):
  c5t w e0 (s7 N R) y c i e (i+(s5 e).length):=by
 intro M p hM;have hwl:=V.wl;obtain⟨hx2,he⟩:=he;have hmk:=b6a V i hx hx2;have hM1:(M ++ [(S9 w i e0,(y:Int))]).length<=i+1:=by simp;omega
 rcases he with⟨t,h1,rfl⟩|⟨n,h1,rfl⟩|⟨t,h1,rfl⟩|⟨es,rfl,h1⟩|⟨a,b,rfl,h1,h2⟩|⟨ks,es,h1,h2,h3,rfl,h4⟩|⟨a,b,rfl,h1,h2⟩|⟨a,b,rfl,h1,h2⟩
 ·rw[c66]at ha ⊢;obtain⟨hi,g1,g2,_⟩:=ha.hd;refine⟨_,hmk,by simp;omega,?_⟩;unfold s7;rw[d9,a1u (by omega),d2];simp only;rw[decide_eq_false (show ¬(i:Int)>=(w.length:Int) by omega),d9,p6 _ hi,d2,g1,g2];simp only[show((2:Int)==2)=true by decide,d8,b1P V.wl hi];rfl
 ·rw[c67]at ha ⊢;obtain⟨hi,g1,g2,g3⟩:=ha.hd;refine⟨_,hmk,by simp;omega,?_⟩;unfold s7;rw[d9,a1u (by omega),d2];simp only;rw[decide_eq_false (show ¬(i:Int)>=(w.length:Int) by omega),d9,p6 _ hi,d2,g1,g3];simp only[show((3:Int)==2)=false by decide,show((3:Int)==3)=true by decide,d9,d8,b1P V.wl hi];rfl
 ·rw[c68]at ha ⊢;obtain⟨hi,g1,g2,g3⟩:=ha.hd;have c1:I9 w i 4 [40]=false:=by rw[ha.is];rfl
  have c2:I9 w i 4 [91]=false:=by rw[ha.is];rfl
  have c3:I9 w i 1 [102,105,108,101,115]=false:=by rw[ha.is];simp[a0n h1 c6f.1]
  have c4:I9 w i 1 [99,104,111,111,115,101]=false:=by rw[ha.is];simp[a0n h1 c6f.2]
  refine⟨_,hmk,by simp;omega,?_⟩;unfold s7;rw[d9,a1u (by omega),d2];simp only;rw[decide_eq_false (show ¬(i:Int)>=(w.length:Int) by omega),d9,p6 _ hi,d2,g1];simp only[show((1:Int)==2)=false by decide,show((1:Int)==3)=false by decide,d9,o5 c1,o5 c2,o5 c3,o5 c4,d2,a0o V.hN V.wl V.wok (ha.name h1)];rfl
 ·rw[c2K,List.append_assoc]at ha;obtain⟨hi,g1,g2,g3⟩:=At.hd (k:=4) (t:=[91]) (n:=0) (ks:=o8 (es.map s5) ++ [B8 93]) ha;have c1:I9 w i 4 [40]=false:=by rw[At.is (ks:=o8 (es.map s5) ++ [B8 93]) ha];rfl
  have c2:I9 w i 4 [91]=true:=At.sign (ks:=o8 (es.map s5) ++ [B8 93]) ha;have a1:At w (i+1) (o8 (es.map s5) ++ [B8 93]):=At.tl (q:=B8 91) ha;have a2:=a1.app.2;have hll:(s5 (GExpr.mk 4 [] 0 [] es)).length=(o8 (es.map s5)).length+2:=by rw[c2K];simp only[List.length_append,List.length_cons,List.length_nil];omega
  have hkid:∀d∈es,WE k (x+1) d/\(s5 d).length<L:=fun d hd=>⟨h1 d hd,by
   have:(s5 d).length<=(o8 (es.map s5)).length:=a9o (List.mem_map_of_mem hd);omega⟩
  obtain⟨f,hf,hf2⟩:=a3y V.hN;have hloop:∃T,Mok c T/\T.length<=(o8 (es.map s5)).length/\x6 N R (y:Int) (fun o0_0_1 o0_0_2 o0_0_3 o0_0_4 o0_w1 o0_w2 o0_w900001=>
         j8 (k6 N ([93]:d7) o0_0_1 o0_0_2 o0_0_3 o0_0_4 o0_w1 o0_w2) fun t115=>
         some (GExpr.mk (4:Int) ([]:d7) (0:Int) ([]:List d7) o0_w900001,t115)) N ((i+1:Nat):Int) e0 false p w (M ++ [(S9 w i e0,(y:Int))]) []=some (GExpr.mk (4:Int) ([]:d7) (0:Int) ([]:List d7) es,((i+1+(o8 (es.map s5)).length+1:Nat):Int),e0,false,p,w,M ++ [(S9 w i e0,(y:Int))]++T):=by
   cases es with
   |nil=>
    refine⟨[],Mok.nil,by simp,?_⟩;have a2':At w (i+1) [B8 93]:=a1;rw[hf,a9u];unfold D5;simp only[Bool.not_false,d8,List.length_nil,show decide (((0:Nat):Int)>0)=false by decide,d9,S5,a2'.sign,d2,Bool.not_true,t6 V.wl a2'.sign,List.append_nil];rfl
   |cons e1 es=>
    have hlen:(e1 :: es).length<N:=by
     have h5:=a3h (l:=(e1 :: es).map s5) (fun s hs=>by
      obtain⟨d,hd,rfl⟩:=List.mem_map.1 hs;exact Y5 (h1 d hd))
     rw[List.length_map]at h5;have h6:=a1.app.1.le (by intro h;rw[h]at h5;simp at h5);omega
    obtain⟨T,t1,t2,t3⟩:=b7F V hR hx (by omega) (p:=p) (K:=fun o0_0_1 o0_0_2 o0_0_3 o0_0_4 o0_w1 o0_w2 o0_w900001=>
         j8 (k6 N ([93]:d7) o0_0_1 o0_0_2 o0_0_3 o0_0_4 o0_w1 o0_w2) fun t115=>
         some (GExpr.mk (4:Int) ([]:d7) (0:Int) ([]:List d7) o0_w900001,t115)) (e1 :: es) N (i+1) (M ++ [(S9 w i e0,(y:Int))]) [] [] (by simp) hkid hlen hM1 (by simp) a1
    refine⟨T,t1,t2,?_⟩;rw[t3];simp only[t6 V.wl a2.sign,d2,List.nil_append]
  obtain⟨T,t1,t2,t3⟩:=hloop;refine⟨[(S9 w i e0,(y:Int))]++T,hmk.app t1,by rw[hll];simp only[List.length_append,List.length_cons,List.length_nil];omega,?_⟩;unfold s7;rw[d9,a1u (by omega),d2];simp only;rw[decide_eq_false (show ¬(i:Int)>=(w.length:Int) by omega),d9,p6 _ hi,d2,g1];simp only[show((4:Int)==2)=false by decide,show((4:Int)==3)=false by decide,d9,o5 c1,C8 V.wl c2,d2,d8];rw[t3,hll,show i+((o8 (es.map s5)).length+2)=i+1+(o8 (es.map s5)).length+1 by omega,List.append_assoc]
 ·rw[c2L]at ha;have hll:(s5 (GExpr.mk 5 [] 0 [] [a,b])).length=(s5 a).length+(s5 b).length+4:=by rw[c2L];simp only[List.map_cons,List.map_nil,o8,List.length_append,List.length_cons,List.length_nil];omega
  have ha':At w i (T4 [102,105,108,101,115] :: B8 40 :: (s5 a++B8 44 :: (s5 b ++ [B8 41]))):=by
   have e:[T4 [102,105,108,101,115],B8 40]++o8 (List.map s5 [a,b]) ++ [B8 41]=T4 [102,105,108,101,115] :: B8 40 :: (s5 a++B8 44 :: (s5 b ++ [B8 41])):=by simp[o8]
   rw[e]at ha;exact ha
  obtain⟨hi,g1,g2,g3⟩:=ha'.hd;have c1:I9 w i 4 [40]=false:=by rw[ha'.is];rfl
  have c2:I9 w i 4 [91]=false:=by rw[ha'.is];rfl
  have b1:=ha'.tl;have b2:=b1.tl.app;have b3:=b2.2.tl.app;have pa:=Y5 h1;have pb':=Y5 h2;obtain⟨T,t1,t2,t3⟩:=hR k (x+1) (y+1) c a (i+1+1) (by omega) h1 (by omega) b2.1 (b2.2.stop (by decide)) (M ++ [(S9 w i e0,(y:Int))]) p (by omega);obtain⟨U,u1,u2,u3⟩:=hR k (x+1) (y+1) c b (i+1+1+(s5 a).length+1) (by omega) h2 (by omega) b3.1 (b3.2.stop (by decide)) (M ++ [(S9 w i e0,(y:Int))]++T) p (by rw[List.length_append];omega);refine⟨[(S9 w i e0,(y:Int))]++T++U,(hmk.app t1).app u1,by rw[hll];simp only[List.length_append,List.length_cons,List.length_nil];omega,?_⟩;unfold s7;rw[d9,a1u (by omega),d2];simp only;rw[decide_eq_false (show ¬(i:Int)>=(w.length:Int) by omega),d9,p6 _ hi,d2,g1];simp only[show((1:Int)==2)=false by decide,show((1:Int)==3)=false by decide,d9,o5 c1,o5 c2,C8 V.wl ha'.word,d2,d8,t6 V.wl b1.sign,a5r (show y<=1000 by omega),t3,t6 V.wl b2.2.sign,u3,t6 V.wl b3.2.sign,GExpr.eta];rw[hll,show i+((s5 a).length+(s5 b).length+4)=i+1+1+(s5 a).length+1+(s5 b).length+1 by omega];simp only[List.append_assoc]
 ·rw[c2M,a2S]at ha;have hz:ks.zip es ≠ []:=by
   intro h;have:=congrArg List.length h;rw[List.length_zip,h1,Nat.min_self]at this;have h5:es.length=0:=this;omega
  have ha':At w i (T4 [99,104,111,111,115,101] :: B8 123 :: (o8 ((ks.zip es).map fun z=>[(2,z.1,0),B8 58]++s5 z.2) ++ [B8 125])):=by
   simpa using ha
  have hll:(s5 (GExpr.mk 6 [] 0 ks es)).length=(o8 ((ks.zip es).map fun z=>[(2,z.1,0),B8 58]++s5 z.2)).length+3:=by rw[c2M,a2S];simp only[List.length_append,List.length_cons,List.length_nil];omega
  obtain⟨hi,g1,g2,g3⟩:=ha'.hd;have c1:I9 w i 4 [40]=false:=by rw[ha'.is];rfl
  have c2:I9 w i 4 [91]=false:=by rw[ha'.is];rfl
  have c3:I9 w i 1 [102,105,108,101,115]=false:=by rw[ha'.is];rfl
  have b1:=ha'.tl;have b2:=b1.tl;have b3:=b2.app.2;have hkid:∀d∈ks.zip es,WE k (x+1) d.2/\(s5 d.2).length<L:=fun d hd=>⟨h4 _ (List.of_mem_zip hd).2,by
   have h5:([(2,d.1,0),B8 58]++s5 d.2).length<=(o8 ((ks.zip es).map fun z=>[(2,z.1,0),B8 58]++s5 z.2)).length:=a9o (List.mem_map_of_mem (f:=fun z:d7×GExpr=>[((2:Int),z.1,(0:Int)),B8 58]++s5 z.2) hd);simp only[List.length_append,List.length_cons,List.length_nil]at h5;omega⟩
  obtain⟨f,hf,hf2⟩:=a3y V.hN;have hlen:(ks.zip es).length<N:=by
   have h5:=a3h (l:=(ks.zip es).map fun z=>[(2,z.1,0),B8 58]++s5 z.2) (fun s hs=>by
    obtain⟨d,hd,rfl⟩:=List.mem_map.1 hs;simp)
   rw[List.length_map]at h5;have h6:=b2.app.1.le (by intro h;have:=List.length_pos_iff.2 hz;rw[h,List.length_nil]at h5;omega);exact Nat.lt_of_le_of_lt (Nat.le_trans h5 (Nat.le_trans (Nat.le_add_left _ _) h6)) (by omega)
  obtain⟨T,t1,t2,t3⟩:=b7g V hR hx (by omega) (p:=p) (K:=fun o0_0_1 o0_0_2 o0_0_3 o0_0_4 o0_w1 o0_w2 o0_w900001 o0_w900002=>
   j8 (k6 N ([125]:d7) o0_0_1 o0_0_2 o0_0_3 o0_0_4 o0_w1 o0_w2) fun t40=>
   some (GExpr.mk (6:Int) ([]:d7) (0:Int) o0_w900001 o0_w900002,t40)) (ks.zip es) N (i+1+1) (M ++ [(S9 w i e0,(y:Int))]) [] [] [] hz hkid hlen (by omega) (by simp) (by simp) b2
  refine⟨[(S9 w i e0,(y:Int))]++T,hmk.app t1,by rw[hll];simp only[List.length_append,List.length_cons,List.length_nil];omega,?_⟩;unfold s7;rw[d9,a1u (by omega),d2];simp only;rw[decide_eq_false (show ¬(i:Int)>=(w.length:Int) by omega),d9,p6 _ hi,d2,g1];simp only[show((1:Int)==2)=false by decide,show((1:Int)==3)=false by decide,d9,o5 c1,o5 c2,o5 c3,C8 V.wl ha'.word,d2,d8];unfold Q2;simp only[t6 V.wl b1.sign,d2];rw[t3];simp only[t6 V.wl b3.sign,d2,List.nil_append,GExpr.eta];rw[hll,show i+((o8 ((ks.zip es).map fun z=>[(2,z.1,0),B8 58]++s5 z.2)).length+3)=i+1+1+(o8 ((ks.zip es).map fun z=>[(2,z.1,0),B8 58]++s5 z.2)).length+1 by omega,List.append_assoc];rw[List.map_fst_zip (by omega),List.map_snd_zip (by omega)]
 ·exact absurd rfl h7
 ·exact absurd rfl h8
end
end
noncomputable section
variable{N:Nat}
section
variable{w:List A6}{e0:Int}{R:RX}{L:Nat}
theorem b6e(V:Wc N w e0)(hR:a2B w e0 R L){k x y c i:Nat}{e:GExpr}(b:Bool)(hx:x=y+c)(hx2:x<30)(he:WE k (x+pb b) e)(hb:b=false->e.kind≠7/\e.kind≠8)(hl:(s5 e).length<L)(ha:At w i (O4 b (s5 e))):
  c5t w e0 (s7 N R) y c i e (i+(O4 b (s5 e)).length):=by
 cases b with
 |true=>exact d14 V hR hx hx2 he hl ha
 |false=>
  cases k with
  |zero=>exact he.elim
  |succ k=>exact b7R V hR hx he (hb rfl).1 (hb rfl).2 (Nat.le_of_lt hl) ha
abbrev KS:Type:=Int->Int->Bool->Int->List A6->Mk->Int->d7->Int->List d7->List GExpr->RO
theorem b5f{n:Nat}{x1:Int}{k1:KS}{a e p:Int}{b:Bool}{M:Mk}{q1 q3:Int}{q2:d7}{q4:List d7}{q5:List GExpr}:
  B4 N R x1 k1 (n+1) a e b p w M q1 q2 q3 q4 q5=F3 N R x1 k1 (B4 N R x1 k1 n) a e b p w M q1 q2 q3 q4 q5:=rfl
noncomputable def d2n(N:Nat)(R:RX)(K:KS)(f:Nat)(y a e p:Int)(w:List A6)(M:Mk):RO:=j8 (s7 N R y a e false p w M) fun t9=>B4 N R y K f t9.2.1 t9.2.2.1 t9.2.2.2.1 t9.2.2.2.2.1 t9.2.2.2.2.2.1 t9.2.2.2.2.2.2 t9.1.kind t9.1.text t9.1.number t9.1.keys t9.1.kids
theorem d40(q i:Int):T9 7 q i=(q==8||(q==7&&i==1)):=by unfold T9;simp
theorem d7e(q i:Int):T9 8 q i=(q==8):=by unfold T9;simp
theorem c2E(V:Wc N w e0)(hR:a2B w e0 R L)(K:KS)(p:Int):∀(k x y c:Nat) (e:GExpr) (i:Nat),x=y+c->WE k x e->e.kind≠8->(s5 e).length<=L->At w i (s5 e)->∀(M:Mk),M.length<=i->∀f,(s5 e).length<f->
  ∃(T:Mk) (f':Nat),Mok c T/\T.length<=(s5 e).length/\f<=f'+(s5 e).length/\d2n N R K f (y:Int) (i:Int) e0 p w M=B4 N R (y:Int) K f' ((i+(s5 e).length:Nat):Int) e0 false p w (M++T) e.kind e.text e.number e.keys e.kids
 |0,_,_,_,_,_,_,h,_,_,_,_,_,_,_=>h.elim
 |k+1,x,y,c,e,i,hx,he,h8,hl,ha,M,hM,f,hf=>by
  by_cases h7:e.kind=7
  case neg=>
   obtain⟨T,t1,t2,t3⟩:=b7R V hR hx he h7 h8 hl ha M p hM;refine⟨T,f,t1,by omega,by omega,?_⟩;unfold d2n;rw[t3,d2]
  obtain⟨hx2,he⟩:=he;rcases he with⟨t,h1,rfl⟩|⟨n,h1,rfl⟩|⟨t,h1,rfl⟩|⟨es,rfl,h1⟩|⟨a,b,rfl,h1,h2⟩|⟨ks,es,h1,h2,h3,rfl,h4⟩|⟨a,b,rfl,h1,h2⟩|⟨a,b,rfl,h1,h2⟩
  ·exact absurd h7 (by simp[F5])
  ·exact absurd h7 (by simp[F5])
  ·exact absurd h7 (by simp[F5])
  ·exact absurd h7 (by simp[F5])
  ·exact absurd h7 (by simp[F5])
  ·exact absurd h7 (by simp[F5])
  ·have hll:(s5 (GExpr.mk 7 [] 0 [] [a,b])).length=(O4 (T9 7 a.kind 0) (s5 a)).length+1+(O4 (T9 7 b.kind 1) (s5 b)).length:=by rw[c2N];simp only[List.length_append,List.length_cons,List.length_nil]
   rw[c2N]at ha;obtain⟨ha',a3⟩:=ha.app;obtain⟨a1,a2⟩:=ha'.app;rw[List.length_append]at a3;have hpar:∀b s,(s:List Key).length<=(O4 b s).length:=fun b s=>by cases b<;>simp[O4];omega
   have pa:=hpar (T9 7 a.kind 0) (s5 a);have pb':=hpar (T9 7 b.kind 1) (s5 b);have qa:=Y5 h1;have qb:=Y5 h2;have first:∃(T:Mk) (f':Nat),Mok c T/\T.length<=(O4 (T9 7 a.kind 0) (s5 a)).length/\f<=f'+(O4 (T9 7 a.kind 0) (s5 a)).length/\d2n N R K f (y:Int) (i:Int) e0 p w M=B4 N R (y:Int) K f' ((i+(O4 (T9 7 a.kind 0) (s5 a)).length:Nat):Int) e0 false p w (M++T) a.kind a.text a.number a.keys a.kids:=by
    by_cases h:a.kind=8
    ·have hbk:T9 7 a.kind 0=true:=by rw[d40,h];rfl
     rw[hbk]at h1 a1 ⊢;rw[hbk]at pa hll;obtain⟨T,t1,t2,t3⟩:=b6e V hR true hx hx2 h1 (fun h=>by cases h) (by omega) a1 M p hM;refine⟨T,f,t1,by omega,by omega,?_⟩;unfold d2n;rw[t3,d2]
    ·have hbk:T9 7 a.kind 0=false:=by rw[d40];simp[h]
     rw[hbk]at h1 a1 ⊢;rw[hbk]at pa hll;exact c2E V hR K p k x y c a i hx h1 h (by have:(O4 false (s5 a)).length=(s5 a).length:=rfl;omega) a1 M hM f (by have:(O4 false (s5 a)).length=(s5 a).length:=rfl;omega)
   obtain⟨T,f1,t1,t2,t3,t4⟩:=first
   obtain⟨f2,rfl⟩:∃q,f1=q+1:=⟨f1-1,by omega⟩;have hplus:I9 w (i+(O4 (T9 7 a.kind 0) (s5 a)).length) 4 [43]=true:=a2.sign;obtain⟨U,u1,u2,u3⟩:=b6e V hR (T9 7 b.kind 1) hx hx2 h2 (fun h=>by
    rw[d40]at h;simp only[Bool.or_eq_false_iff,Bool.and_eq_false_iff,beq_eq_false_iff_ne,ne_eq]at h;refine⟨fun h7=>?_,h.1⟩;rcases h.2 with h|h
    ·exact h h7
    ·exact h trivial) (by omega) a3 (M++T) p (by rw[List.length_append];simp only[List.length_cons,List.length_nil];omega)
   refine⟨T++U,f2,t1.app u1,by rw[hll,List.length_append];simp only[List.length_cons,List.length_nil]at u2;omega,by omega,?_⟩;rw[t4,b5f];unfold F3;have e1:i+((O4 (T9 7 a.kind 0) (s5 a)).length + [B8 43].length)=i+(O4 (T9 7 a.kind 0) (s5 a)).length+1:=rfl;rw[e1]at u3;simp only[C8 V.wl hplus,d2,d8,u3,GExpr.eta];rw[hll,<-List.append_assoc,show i+((O4 (T9 7 a.kind 0) (s5 a)).length+1+(O4 (T9 7 b.kind 1) (s5 b)).length)=i+(O4 (T9 7 a.kind 0) (s5 a)).length+1+(O4 (T9 7 b.kind 1) (s5 b)).length by omega];rfl
  ·exact absurd h7 (by simp[F5])
theorem b2m(V:Wc N w e0)(hR:a2B w e0 R L){k x y c i:Nat}{e:GExpr}(b:Bool)(hx:x=y+c)(hx2:x<30)(he:WE k (x+pb b) e)(hb:b=false->e.kind≠8)(hl:(s5 e).length<=L)(hl2:b=true->(s5 e).length<L)(ha:At w i (O4 b (s5 e)))
  (hst:I9 w (i+(O4 b (s5 e)).length) 4 [43]=false):
  c5t w e0 (K9 N R) y c i e (i+(O4 b (s5 e)).length):=by
 intro M p hM;have hwl:=V.wl;have hp:=Y5 he;have hple:(O4 b (s5 e)).length<=50000:=by
  have:=ha.le (by intro h;have h2:=congrArg List.length h;cases b<;>simp[O4]at h2;rw[h2]at hp;simp at hp);omega
 obtain⟨f,hf,hf2⟩:=a3y V.hN;have key:∃(T:Mk) (f':Nat),Mok c T/\T.length<=(O4 b (s5 e)).length/\N<=f'+(O4 b (s5 e)).length/\K9 N R (y:Int) (i:Int) e0 false p w M=B4 N R (y:Int) (fun o0_0_1 o0_0_2 o0_0_3 o0_0_4 o0_w1 o0_w2 o0_1005_0 o0_1005_1 o0_1005_2 o0_1005_3 o0_1005_4=>
   some (GExpr.mk o0_1005_0 o0_1005_1 o0_1005_2 o0_1005_3 o0_1005_4,o0_0_1,o0_0_2,o0_0_3,o0_0_4,o0_w1,o0_w2)) f' ((i+(O4 b (s5 e)).length:Nat):Int) e0 false p w (M++T) e.kind e.text e.number e.keys e.kids:=by
  cases b with
  |true=>
   obtain⟨T,t1,t2,t3⟩:=b6e V hR true hx hx2 he (fun h=>by cases h) (hl2 rfl) ha M p hM;refine⟨T,N,t1,by omega,by omega,?_⟩;unfold K9;rw[t3,d2]
  |false=>
   have hpl:(O4 false (s5 e)).length=(s5 e).length:=rfl;obtain⟨T,f',t1,t2,t3,t4⟩:=c2E V hR (fun o0_0_1 o0_0_2 o0_0_3 o0_0_4 o0_w1 o0_w2 o0_1005_0 o0_1005_1 o0_1005_2 o0_1005_3 o0_1005_4=>
    some (GExpr.mk o0_1005_0 o0_1005_1 o0_1005_2 o0_1005_3 o0_1005_4,o0_0_1,o0_0_2,o0_0_3,o0_0_4,o0_w1,o0_w2)) p k x y c e i hx he (hb rfl) hl ha M hM N (by omega)
   exact⟨T,f',t1,t2,t3,t4⟩
 obtain⟨T,f',t1,t2,t3,t4⟩:=key;obtain⟨f2,rfl⟩:∃q,f'=q+1:=⟨f'-1,by omega⟩;refine⟨T,t1,by omega,?_⟩;rw[t4,b5f];unfold F3;simp only[o5 hst,d2,d9,GExpr.eta]
end
theorem a4K{w:List A6}{e0:Int}(V:Wc N w e0):∀n,a2B w e0 (w8 N n) n
 |0=>fun _ _ _ _ _ _ _ _ h=>absurd h (by omega)
 |n+1=>by
  have hR:=a4K V n;intro k x y c e i hx he hl ha hst M p hM;have hwl:=V.wl;have hx2:x<30:=by
   cases k with
   |zero=>exact he.elim
   |succ k=>exact he.1
  show ∃T:Mk,Mok c T/\_/\G4 N (w8 N n) (y:Int) (i:Int) e0 false p w M=_;unfold G4;rw[d9];by_cases h8:e.kind=8
  case neg=>
   obtain⟨T,t1,t2,t3⟩:=b2m V hR false hx hx2 he (fun _=>h8) (by omega) (fun h=>by cases h) ha hst.1 M p hM;refine⟨T,t1,t2,?_⟩;have hpl:(O4 false (s5 e)).length=(s5 e).length:=rfl;rw[hpl]at t3;simp only[t3,d2,o5 hst.2,Bool.not_false,d8,GExpr.eta]
  cases k with
  |zero=>exact he.elim
  |succ k=>
  obtain⟨_,he⟩:=he;rcases he with⟨t,h1,rfl⟩|⟨n,h1,rfl⟩|⟨t,h1,rfl⟩|⟨es,rfl,h1⟩|⟨a,b,rfl,h1,h2⟩|⟨ks,es,h1,h2,h3,rfl,h4⟩|⟨a,b,rfl,h1,h2⟩|⟨a,b,rfl,h1,h2⟩
  ·exact absurd h8 (by simp[F5])
  ·exact absurd h8 (by simp[F5])
  ·exact absurd h8 (by simp[F5])
  ·exact absurd h8 (by simp[F5])
  ·exact absurd h8 (by simp[F5])
  ·exact absurd h8 (by simp[F5])
  ·exact absurd h8 (by simp[F5])
  ·have hll:(s5 (GExpr.mk 8 [] 0 [] [a,b])).length=(O4 (T9 8 a.kind 0) (s5 a)).length+1+(O4 (T9 8 b.kind 1) (s5 b)).length:=by rw[c2O];simp only[List.length_append,List.length_cons,List.length_nil]
   rw[hll]at hst;rw[c2O]at ha;obtain⟨ha',a3⟩:=ha.app;obtain⟨a1,a2⟩:=ha'.app;have e1:i+(O4 (T9 8 a.kind 0) (s5 a) ++ [((4:Int),([61,61]:d7),(0:Int))]).length=i+(O4 (T9 8 a.kind 0) (s5 a)).length+1:=by rw[List.length_append];rfl
   rw[e1]at a3;have hpar:∀b s,(s:List Key).length<=(O4 b s).length:=fun b s=>by cases b<;>simp[O4];omega
   have pa:=hpar (T9 8 a.kind 0) (s5 a);have pb':=hpar (T9 8 b.kind 1) (s5 b);have qa:=Y5 h1;have qb:=Y5 h2;have hxa:∀{k x:Nat} {e:GExpr},WE k x e->x<30:=fun{k x e} h=>by
    cases k with
    |zero=>exact h.elim
    |succ k=>exact h.1
   have y1:=hxa h1;have y2:=hxa h2;have heq:I9 w (i+(O4 (T9 8 a.kind 0) (s5 a)).length) 4 [61,61]=true:=by rw[a2.is];rfl
   have hnp:I9 w (i+(O4 (T9 8 a.kind 0) (s5 a)).length) 4 [43]=false:=by rw[a2.is];rfl
   obtain⟨T,t1,t2,t3⟩:=b2m V hR (x:=x+1) (y:=y) (c:=c+1) (T9 8 a.kind 0) (by omega) (by omega) h1 (fun h=>by rw[d7e]at h;simpa using h) (by omega) (fun _=>by omega) a1 hnp M p hM;obtain⟨U,u1,u2,u3⟩:=b2m V hR (x:=x+1) (y:=y+1) (c:=c) (T9 8 b.kind 1) (by omega) (by omega) h2 (fun h=>by rw[d7e]at h;simpa using h) (by omega) (fun _=>by omega) a3 (by have:=hst.1;rw[show i+(O4 (T9 8 a.kind 0) (s5 a)).length+1+(O4 (T9 8 b.kind 1) (s5 b)).length=i+((O4 (T9 8 a.kind 0) (s5 a)).length+1+(O4 (T9 8 b.kind 1) (s5 b)).length) by omega];exact this) (M++T.map (sh 1)) p (by rw[List.length_append,List.length_map];omega);refine⟨T.map (sh 1)++U,t1.up.app u1,by rw[hll,List.length_append,List.length_map];omega,?_⟩;have hle1:=a2.le (by simp);simp only[t3,d2,C8 V.wl heq,Bool.not_true,d9,GExpr.eta,a5r (show y<=1000 by omega)];rw[b1Z V.hN T M N (fun m hm=>by have:=t1 m hm;omega) (by simp only[List.length_cons,List.length_nil]at hle1;omega) (by have:=V.hN;unfold J0 at this;simp only[List.length_cons,List.length_nil]at hle1;omega)];simp only[u3,d2,GExpr.eta];rw[hll,List.append_assoc,show i+((O4 (T9 8 a.kind 0) (s5 a)).length+1+(O4 (T9 8 b.kind 1) (s5 b)).length)=i+(O4 (T9 8 a.kind 0) (s5 a)).length+1+(O4 (T9 8 b.kind 1) (s5 b)).length by omega]
end
section
variable{N:Nat}
theorem EOk.kids{k:Nat}{e:GExpr}(h:EOk (k+1) e):e.kids.length<=50000/\∀c∈e.kids,EOk k c:=by
 have two:∀a b:GExpr,EOk k a->EOk k b->∀c ∈ [a,b],EOk k c:=fun a b ha hb c hc=>by
  rcases List.mem_cons.1 hc with rfl|hc
  ·exact ha
  ·rw[List.mem_singleton.1 hc];exact hb
 rcases h with⟨t,h1,rfl⟩|⟨m,rfl⟩|⟨t,h1,h2,rfl⟩|⟨es,h1,rfl,h3⟩|⟨a,b,rfl,h2,h3⟩|⟨ks,es,h0,hp,h1,h4,rfl,h3⟩|⟨a,b,rfl,h2,h3⟩|⟨a,b,rfl,h2,h3⟩
 ·exact⟨by simp[E5],by simp[E5]⟩
 ·exact⟨by simp[E5],by simp[E5]⟩
 ·exact⟨by simp[E5],by simp[E5]⟩
 ·exact⟨h1,h3⟩
 ·exact⟨by simp[E5],two a b h2 h3⟩
 ·exact⟨h1,h3⟩
 ·exact⟨by simp[E5],two a b h2 h3⟩
 ·exact⟨by simp[E5],two a b h2 h3⟩
def d7g(G:GStmt):Bool:=G.kind==1||(G.kind==4||G.kind==5)
structure SParts(k:Nat)(G:GStmt):Prop where
 args:G.args.length<=50000/\∀q∈G.args,EOk 60000 q.2
 expr:(d7g G=true/\EOk 60000 G.expr)\/(d7g G=false/\G.expr=zE)
 body:G.body.length<=50000/\∀c∈G.body,SOk k c
 els:G.els.length<=50000/\∀c∈G.els,SOk k c
 kind:G.kind=1\/G.kind=2\/G.kind=3\/G.kind=4\/G.kind=5\/G.kind=6
theorem SOk.parts{k:Nat}{G:GStmt}(h:SOk (k+1) G):SParts k G:=by
 rcases h with⟨q,E,a,h1,h2,rfl⟩|⟨q,ag,a,h1,h2,h3,rfl⟩|⟨q,ps,b,a,h1,h2,h3,h4,h5,rfl⟩|⟨q,E,b,a,h1,h2,h3,h4,rfl⟩|⟨E,b,l,a,h1,h2,h3,h4,h5,rfl⟩|⟨t,a,h1,rfl⟩
 ·exact⟨⟨by simp[GStmt.args],by simp[GStmt.args]⟩,.inl ⟨rfl,h2⟩,⟨by simp[GStmt.body],by simp[GStmt.body]⟩,⟨by simp[GStmt.els],by simp[GStmt.els]⟩,.inl rfl⟩
 ·exact⟨⟨h2,fun q hq=>(h3 q hq).2⟩,.inr ⟨rfl,rfl⟩,⟨by simp[GStmt.body],by simp[GStmt.body]⟩,⟨by simp[GStmt.els],by simp[GStmt.els]⟩,.inr (.inl rfl)⟩
 ·exact⟨⟨by simp[GStmt.args],by simp[GStmt.args]⟩,.inr ⟨rfl,rfl⟩,⟨h4,h5⟩,⟨by simp[GStmt.els],by simp[GStmt.els]⟩,.inr (.inr (.inl rfl))⟩
 ·exact⟨⟨by simp[GStmt.args],by simp[GStmt.args]⟩,.inl ⟨rfl,h2⟩,⟨h3,h4⟩,⟨by simp[GStmt.els],by simp[GStmt.els]⟩,.inr (.inr (.inr (.inl rfl)))⟩
 ·exact⟨⟨by simp[GStmt.args],by simp[GStmt.args]⟩,.inl ⟨rfl,h1⟩,⟨h2,h3⟩,⟨h4,h5⟩,.inr (.inr (.inr (.inr (.inl rfl))))⟩
 ·exact⟨⟨by simp[GStmt.args],by simp[GStmt.args]⟩,.inr ⟨rfl,rfl⟩,⟨by simp[GStmt.body],by simp[GStmt.body]⟩,⟨by simp[GStmt.els],by simp[GStmt.els]⟩,.inr (.inr (.inr (.inr (.inr rfl))))⟩
end
section
variable{N:Nat}
section
variable(k a:Int)(q t:d7)(ps:List d7)(ag:List Ag)(E:GExpr)(b l:List GStmt)
theorem S0:(GStmt.mk k q t ps ag E b l a).kind=k:=rfl
theorem U1:(GStmt.mk k q t ps ag E b l a).name=q:=rfl
theorem U3:(GStmt.mk k q t ps ag E b l a).text=t:=rfl
theorem K3:(GStmt.mk k q t ps ag E b l a).params=ps:=rfl
theorem O7:(GStmt.mk k q t ps ag E b l a).args=ag:=rfl
theorem X3:(GStmt.mk k q t ps ag E b l a).expr=E:=rfl
theorem R9:(GStmt.mk k q t ps ag E b l a).body=b:=rfl
theorem X9:(GStmt.mk k q t ps ag E b l a).els=l:=rfl
end
end
section
variable{N:Nat}
theorem EOk.keys{k:Nat}{e:GExpr}(h:EOk (k+1) e):e.keys.length<=50000:=by
 rcases h with⟨t,h1,rfl⟩|⟨m,rfl⟩|⟨t,h1,h2,rfl⟩|⟨es,h1,rfl,h3⟩|⟨a,b,rfl,h2,h3⟩|⟨ks,es,h0,hp,h1,h4,rfl,h3⟩|⟨a,b,rfl,h2,h3⟩|⟨a,b,rfl,h2,h3⟩<;>simp[Z3]
 omega
theorem b45{R:GExpr->GExpr->Option Bool}{es:List GExpr}(hl:es.length<=50000)(h:∀c∈es,R c c=some true):∀(u f j:Nat),j+u=es.length->u<f->b88 N R (es.length:Int) es es (some true) f (j:Int)=some true
 |0,f,j,hj,hf=>by
  obtain⟨f,rfl⟩:∃q,f=q+1:=⟨f-1,by omega⟩;obtain rfl:j=es.length:=by omega
  show a7p _ _ _ _ _ _ _ _=_;unfold a7p;rw[a1r,d9]
 |u+1,f,j,hj,hf=>by
  obtain⟨f,rfl⟩:∃q,f=q+1:=⟨f-1,by omega⟩;have hlt:j<es.length:=by omega
  have ih:=b45 hl h u f (j+1) (by omega) (by omega);show a7p _ _ _ _ _ _ _ _=_;unfold a7p;rw[a0D hlt,d8,p6 _ hlt];simp only[d2,h _ (List.getElem_mem hlt),Bool.not_true,d9,a00 (n:=(j:Int)+1) (m:=j+1) (by omega) (by omega),ih]
theorem c6W(hN:J0<=N){R:GExpr->GExpr->Option Bool}{e:GExpr}(h1:e.keys.length<=50000)(h2:e.kids.length<=50000)(h:∀c∈e.kids,R c c=some true):U9 N R e e=some true:=by
 unfold U9;have hk:=b45 (N:=N) h2 h e.kids.length N 0 (by omega) (by unfold J0 at hN;omega);rw[b4t hN e.keys e.keys (by unfold maxLen;omega) (by unfold maxLen;omega)];simp only[Int.natCast_zero]at hk;simp only[bne_self_eq_false,d9,beq_self_eq_true,Bool.not_true,d2,decide_true,hk]
theorem a9H(hN:J0<=N):∀(k:Nat) (e:GExpr),EOk k e->∀n,k<=n->L8 N n e e=some true
 |0,e,h,_,_=>h.elim
 |k+1,e,h,n,hn=>by
  obtain⟨n,rfl⟩:∃q,n=q+1:=⟨n-1,by omega⟩;obtain⟨h1,h2⟩:=h.kids;exact c6W hN h.keys h1 fun c hc=>a9H hN k c (h2 c hc) n (by omega)
theorem c4C(hN:J0<=N){n:Nat}(hn:0<n):L8 N n zE zE=some true:=by
 obtain⟨n,rfl⟩:∃q,n=q+1:=⟨n-1,by omega⟩;exact c6W hN (by simp[Z3]) (by simp[E5]) (by simp[E5])
theorem b44(hN:J0<=N){RR:List GStmt->List GStmt->Bool->Option Bool}{ag:List Ag}(hl:ag.length<=50000)(h:∀q∈ag,EOk 60000 q.2)(K:Option Bool):∀(u f j:Nat),j+u=ag.length->u<f->b8W N RR (ag.length:Int) ag ag K f (j:Int)=K
 |0,f,j,hj,hf=>by
  obtain⟨f,rfl⟩:∃q,f=q+1:=⟨f-1,by omega⟩;obtain rfl:j=ag.length:=by omega
  show a7o _ _ _ _ _ _ _ _=_;unfold a7o;rw[a1r,d9]
 |u+1,f,j,hj,hf=>by
  obtain⟨f,rfl⟩:∃q,f=q+1:=⟨f-1,by omega⟩;have hlt:j<ag.length:=by omega
  have ih:=b44 hN (RR:=RR) hl h K u f (j+1) (by omega) (by omega);have hs:=a9H hN 60000 _ (h _ (List.getElem_mem hlt)) N (by unfold J0 at hN;omega);show a7o _ _ _ _ _ _ _ _=_;unfold a7o;rw[a0D hlt,d8,p6 _ hlt];simp only[d2,beq_self_eq_true,Bool.not_true,d9,hs,a00 (n:=(j:Int)+1) (m:=j+1) (by omega) (by omega),ih]
theorem SOk.params{k:Nat}{G:GStmt}(h:SOk (k+1) G):G.params.length<=50000:=by
 rcases h with⟨q,E,a,h1,h2,rfl⟩|⟨q,ag,a,h1,h2,h3,rfl⟩|⟨q,ps,b,a,h1,h2,h3,h4,h5,rfl⟩|⟨q,E,b,a,h1,h2,h3,h4,rfl⟩|⟨E,b,l,a,h1,h2,h3,h4,h5,rfl⟩|⟨t,a,h1,rfl⟩<;>simp[K3]
 omega
end
section
variable{N:Nat}
def z0(_:Int):Int:=0
mutual
def erS:GStmt->GStmt | .mk k n t ps ag x b e a=> .mk k n t ps ag x (erL b) (erL e) (z0 a)
def erL:List GStmt->List GStmt | []=>[]|s :: l=>erS s :: erL l
end
theorem a3A:∀l:List GStmt,erL l=l.map erS
 |[]=>by rw[erL];rfl
 |s :: l=>by rw[erL,a3A l];rfl
theorem O1(k:Int)(n t:d7)(ps:List d7)(ag:List (d7×GExpr))(x:GExpr)(b e:List GStmt)(a:Int):erS (.mk k n t ps ag x b e a) = .mk k n t ps ag x (erL b) (erL e) (z0 a):=by rw[erS]
theorem d1P:erL []=[]:=by rw[erL]
theorem a2F(l:List GStmt):(erL l).length=l.length:=by rw[a3A,List.length_map]
theorem c59{α β:Type}(f:α->β)(l:List α)(i:Int):m6 (l.map f) i=(m6 l i).map f:=by
 unfold m6;split
 ·rw[List.getElem?_map]
 ·rfl
theorem b51(l:List GStmt)(i:Int):m6 (erL l) i=(m6 l i).map erS:=by rw[a3A,c59]
theorem b5U{α β R:Type}(x:Option α)(f:α->β)(k:β->Option R):j8 (x.map f) k=j8 x (fun t=>k (f t)):=by cases x<;>simp[j8]
end
section
variable{N:Nat}
theorem b1q(s:GStmt):(erS s).kind=s.kind:=by cases s;rw[O1];rfl
theorem b7r(s:GStmt):(erS s).name=s.name:=by cases s;rw[O1];rfl
theorem b7s(s:GStmt):(erS s).text=s.text:=by cases s;rw[O1];rfl
theorem b1r(s:GStmt):(erS s).params=s.params:=by cases s;rw[O1];rfl
theorem a4H(s:GStmt):(erS s).args=s.args:=by cases s;rw[O1];rfl
theorem a7D(s:GStmt):(erS s).expr=s.expr:=by cases s;rw[O1];rfl
theorem a7C(s:GStmt):(erS s).body=erL s.body:=by cases s;rw[O1];rfl
theorem b0z(s:GStmt):(erS s).els=erL s.els:=by cases s;rw[O1];rfl
theorem b00{R:List GStmt->List GStmt->Bool->Option Bool}(hr:∀a b,R (erL a) (erL b) false=R a b false)(a b:List GStmt)(c:Int)(k:Option Bool):∀(n:Nat) (i:Int),b3k N R (erL b) false (erL a) c k n i=b3k N R b false a c k n i
 |0,_=>rfl
 |n+1,i=>by
  have ih:=b00 hr a b c k n;show a1K _ _ _ _ _ _ _ _ _=a1K _ _ _ _ _ _ _ _ _;unfold a1K;simp only[b51,b5U,hr,ih,b1q,b7r,b7s,b1r,a4H,a7D,a7C,b0z,d9]
theorem c5u{R:List GStmt->List GStmt->Bool->Option Bool}(hr:∀a b,R (erL a) (erL b) false=R a b false)(a b:List GStmt):C6 N R (erL a) (erL b) false=C6 N R a b false:=by
 unfold C6;simp only[b00 hr,a2F]
theorem b5M:∀(d:Nat) (a b:List GStmt),F0 N d (erL a) (erL b) false=F0 N d a b false
 |0,_,_=>rfl
 |d+1,a,b=>c5u (b5M d) a b
theorem b2b(hN:J0<=N){k:Nat}{RR:List GStmt->List GStmt->Bool->Option Bool}(hB:∀l:List GStmt,l.length<=50000->(∀c∈l,SOk k c)->RR l l false=some true){Gs:List GStmt}(hl:Gs.length<=50000)(hG:∀G∈Gs,SOk (k+1) G):∀(u f j:Nat),j+u=Gs.length->u<f->
  b3k N RR Gs false Gs (Gs.length:Int) (some true) f (j:Int)=some true
 |0,f,j,hj,hf=>by
  obtain⟨f,rfl⟩:∃q,f=q+1:=⟨f-1,by omega⟩;obtain rfl:j=Gs.length:=by omega
  show a1K _ _ _ _ _ _ _ _ _=_;unfold a1K;rw[a1r,d9]
 |u+1,f,j,hj,hf=>by
  obtain⟨f,rfl⟩:∃q,f=q+1:=⟨f-1,by omega⟩;have hlt:j<Gs.length:=by omega
  have ih:=b2b hN hB hl hG u f (j+1) (by omega) (by omega);have hS:=hG _ (List.getElem_mem hlt);have P:=hS.parts;have e1:L8 N N Gs[j].expr Gs[j].expr=some true:=by
   rcases P.expr with⟨_,h⟩|⟨_,h⟩
   ·exact a9H hN 60000 _ h N (by unfold J0 at hN;omega)
   ·rw[h];exact c4C hN (by unfold J0 at hN;omega)
  have ha:=fun K=>b44 hN (RR:=RR) P.args.1 P.args.2 K Gs[j].args.length N 0 (by omega) (by have:=P.args.1;unfold J0 at hN;omega)
  simp only[Int.natCast_zero]at ha;show a1K _ _ _ _ _ _ _ _ _=_;unfold a1K;rw[a0D hlt,d8,p6 _ hlt];simp only[d2,bne_self_eq_false,d9,beq_self_eq_true,Bool.not_true,b4t hN Gs[j].params Gs[j].params (by have:=hS.params;unfold maxLen;omega) (by have:=hS.params;unfold maxLen;omega),decide_true,d8,GExpr.eta,e1,hB _ P.body.1 P.body.2,hB _ P.els.1 P.els.2,ha,a00 (n:=(j:Int)+1) (m:=j+1) (by omega) (by omega),ih]
theorem b2c(hN:J0<=N):∀(k n:Nat),k<n->∀Gs:List GStmt,Gs.length<=50000->(∀G∈Gs,SOk k G)->F0 N n Gs Gs false=some true
 |k,0,h,_,_,_=>absurd h (by omega)
 |0,n+1,h,Gs,hl,hG=>by
  have:Gs=[]:=List.eq_nil_iff_forall_not_mem.2 fun G hg=>hG G hg
  subst this;show C6 N _ _ _ _=_;obtain⟨f,rfl,_⟩:=a3y hN;unfold C6;simp only[bne_self_eq_false,d9];show a1K (f+1) _ _ _ _ _ _ _ _=_;simp[a1K]
 |k+1,n+1,h,Gs,hl,hG=>by
  show C6 N _ _ _ _=_;have:=b2b hN (RR:=F0 N n) (fun l h1 h2=>b2c hN k n (by omega) l h1 h2) hl hG Gs.length N 0 (by omega) (by unfold J0 at hN;omega);unfold C6;simp only[bne_self_eq_false,d9];exact this
theorem d2k(hN:J0<=N){G G':List GStmt}(hl:G.length<=50000)(hG:∀g∈G,SOk 50001 g)(h:erL G=erL G'):F0 N N G G' false=some true:=by
 rw[<-b5M,<-h,b5M];exact b2c hN 50001 N (by unfold J0 at hN;omega) G hl hG
end
end Go.Proofs.YtolpmfhiegpohaaGreatDoor
