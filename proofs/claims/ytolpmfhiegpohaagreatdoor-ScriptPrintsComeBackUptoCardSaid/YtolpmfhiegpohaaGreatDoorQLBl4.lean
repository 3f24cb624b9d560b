/- % -/
import Derived.Test.YtolpmfhiegpohaaGreatDoorQLPrA
import Derived.Test.YtolpmfhiegpohaaGreatDoorQLPaB
import Derived.Lib.Join
namespace Go.Proofs.YtolpmfhiegpohaaGreatDoor
set_option linter.unusedVariables false
set_option linter.unusedSimpArgs false
open Go Go.RowKit
section
def a6h(b:Bool)(s:d9):d9:=if b then [40]++s ++ [41]else s
def prK(k:Int)(qs:List Int)(ps:List d9)(i:Nat):d9:=a6h (Z7 k (qs.getD i 0) (i:Int)) (ps.getD i [])
def prX(k:Int)(t:d9)(n:Int)(ks:List d9)(qs:List Int)(ps:List d9):d9:=if k=1 then rpQ t else if k=2 then Lib.itoa n else if k=3 then t else if k=4 then [91]++Lib.join ps [44,32] ++ [93]else if k=5 then [102,105,108,101,115,40]++Lib.join ps [44,32] ++ [41]else if k=7 then prK 7 qs ps 0 ++ [32,43,32]++prK 7 qs ps 1 else if k=8 then prK 8 qs ps 0 ++ [32,61,61,32]++prK 8 qs ps 1 else [99,104,111,111,115,101,32,123]++Lib.join (List.zipWith (fun q p=>rpQ q ++ [58,32]++p) ks ps) [44,32] ++ [125]
mutual
def Q2:GExpr->d9 | .mk k t n ks es=>prX k t n ks (es.map GExpr.kind) (c9E es)
def c9E:List GExpr->List d9 | []=>[]|e :: es=>Q2 e :: c9E es
end
theorem c00:∀es,c9E es=es.map Q2
 |[]=>by rw[c9E];rfl
 |e :: es=>by rw[c9E,c00 es];rfl
theorem a7x(k:Int)(t:d9)(n:Int)(ks:List d9)(es:List GExpr):Q2 (.mk k t n ks es)=prX k t n ks (es.map GExpr.kind) (es.map Q2):=by rw[Q2,c00]
abbrev D8(c:UInt8):Key:=(4,[c],0)
abbrev nmT(q:d9):Key:=(1,q,0)
def T0(b:Bool)(s:List Key):List Key:=if b then [D8 40]++s ++ [D8 41]else s
def q9:List (List Key)->List Key | []=>[] | [x]=>x|x :: y :: r=>x++([D8 44]++q9 (y :: r))
def tkK(k:Int)(qs:List Int)(ps:List (List Key))(i:Nat):List Key:=T0 (Z7 k (qs.getD i 0) (i:Int)) (ps.getD i [])
def tkX(k:Int)(t:d9)(n:Int)(ks:List d9)(qs:List Int)(ps:List (List Key)):List Key:=if k=1 then [(2,t,0)]else if k=2 then [(3,[],n)]else if k=3 then [nmT t]else if k=4 then [D8 91]++q9 ps ++ [D8 93]else if k=5 then [nmT [102,105,108,101,115],D8 40]++q9 ps ++ [D8 41]else if k=7 then tkK 7 qs ps 0 ++ [D8 43]++tkK 7 qs ps 1 else if k=8 then tkK 8 qs ps 0 ++ [(4,[61,61],0)]++tkK 8 qs ps 1 else [nmT [99,104,111,111,115,101],D8 123]++q9 (List.zipWith (fun q p=>[(2,q,0),D8 58]++p) ks ps) ++ [D8 125]
mutual
def u9:GExpr->List Key | .mk k t n ks es=>tkX k t n ks (es.map GExpr.kind) (d0d es)
def d0d:List GExpr->List (List Key) | []=>[]|e :: es=>u9 e :: d0d es
end
theorem c1v:∀es,d0d es=es.map u9
 |[]=>by rw[d0d];rfl
 |e :: es=>by rw[d0d,c1v es];rfl
theorem a7P(k:Int)(t:d9)(n:Int)(ks:List d9)(es:List GExpr):u9 (.mk k t n ks es)=tkX k t n ks (es.map GExpr.kind) (es.map u9):=by rw[u9,c1v]
def pb(b:Bool):Nat:=if b then 1 else 0
def WE:Nat->Nat->GExpr->Prop|0,_,_=>False|k+1,x,e=>x<30/\((∃t:d9,t.all O5=true/\e = .mk 1 t 0 [] [])\/(∃n:Nat,n<=999999999/\e = .mk 2 [] (n:Int) [] [])\/(∃t:d9,w9 t=true/\e = .mk 3 t 0 [] [])\/(∃es:List GExpr,e = .mk 4 [] 0 [] es/\∀c∈es,WE k (x+1) c)\/(∃a b,e = .mk 5 [] 0 [] [a,b]/\WE k (x+1) a/\WE k (x+1) b)\/(∃(ks:List d9) (es:List GExpr),ks.length=es.length/\0<es.length/\(∀s∈ks,s.all O5=true)/\e = .mk 6 [] 0 ks es/\∀c∈es,WE k (x+1) c)\/(∃a b,e = .mk 7 [] 0 [] [a,b]/\WE k (x+pb (Z7 7 a.kind 0)) a/\WE k (x+pb (Z7 7 b.kind 1)) b)\/(∃a b,e = .mk 8 [] 0 [] [a,b]/\WE k (x+1+pb (Z7 8 a.kind 0)) a/\WE k (x+1+pb (Z7 8 b.kind 1)) b))
section
variable(t:d9)(n:Int)(ks:List d9)(es:List GExpr)(a b:GExpr)
theorem c5y:Q2 (.mk 1 t n ks es)=rpQ t:=by rw[a7x];rfl
theorem c9D:Q2 (.mk 2 t n ks es)=Lib.itoa n:=by rw[a7x];rfl
theorem c5z:Q2 (.mk 3 t n ks es)=t:=by rw[a7x];rfl
theorem c5A:Q2 (.mk 4 t n ks es)=[91]++Lib.join (es.map Q2) [44,32] ++ [93]:=by rw[a7x];rfl
theorem c5B:Q2 (.mk 5 t n ks es)=[102,105,108,101,115,40]++Lib.join (es.map Q2) [44,32] ++ [41]:=by rw[a7x];rfl
theorem c5C:Q2 (.mk 6 t n ks es)=[99,104,111,111,115,101,32,123]++Lib.join (List.zipWith (fun q p=>rpQ q ++ [58,32]++p) ks (es.map Q2)) [44,32] ++ [125]:=by rw[a7x];rfl
theorem c5D:Q2 (.mk 7 t n ks [a,b])=a6h (Z7 7 a.kind 0) (Q2 a) ++ [32,43,32]++a6h (Z7 7 b.kind 1) (Q2 b):=by rw[a7x];rfl
theorem c5E:Q2 (.mk 8 t n ks [a,b])=a6h (Z7 8 a.kind 0) (Q2 a) ++ [32,61,61,32]++a6h (Z7 8 b.kind 1) (Q2 b):=by rw[a7x];rfl
theorem d0a:u9 (.mk 1 t n ks es)=[(2,t,0)]:=by rw[a7P];rfl
theorem d0b:u9 (.mk 2 t n ks es)=[(3,[],n)]:=by rw[a7P];rfl
theorem d0c:u9 (.mk 3 t n ks es)=[nmT t]:=by rw[a7P];rfl
theorem c5V:u9 (.mk 4 t n ks es)=[D8 91]++q9 (es.map u9) ++ [D8 93]:=by rw[a7P];rfl
theorem c5W:u9 (.mk 5 t n ks es)=[nmT [102,105,108,101,115],D8 40]++q9 (es.map u9) ++ [D8 41]:=by rw[a7P];rfl
theorem c5X:u9 (.mk 6 t n ks es)=[nmT [99,104,111,111,115,101],D8 123]++q9 (List.zipWith (fun q p=>[(2,q,0),D8 58]++p) ks (es.map u9)) ++ [D8 125]:=by rw[a7P];rfl
theorem c5Y:u9 (.mk 7 t n ks [a,b])=T0 (Z7 7 a.kind 0) (u9 a) ++ [D8 43]++T0 (Z7 7 b.kind 1) (u9 b):=by rw[a7P];rfl
theorem c5Z:u9 (.mk 8 t n ks [a,b])=T0 (Z7 8 a.kind 0) (u9 a) ++ [(4,[61,61],0)]++T0 (Z7 8 b.kind 1) (u9 b):=by rw[a7P];rfl
end
theorem a59(x y:d9)(r:List d9)(sep:d9):Lib.join (x :: y :: r) sep=x++(sep++Lib.join (y :: r) sep):=by
 rw[Lib.join_cons,Lib.join_cons];simp[Lib.joinTail]
theorem c7v{q:d9}(h:w9 q=true):c57 q=true:=by
 cases q with
 |nil=>cases h
 |cons c q=>
  simp only[w9,Bool.and_eq_true]at h;obtain⟨h1,h2,h3,_⟩:=h;have h3':(c :: q).all H6=true:=List.all_eq_true.2 fun x hx=>by
   have:=List.all_eq_true.1 h3 x hx;unfold nmB a4E b1T at this;unfold H6;exact this
  unfold c57;exact Bool.and_eq_true_iff.2 ⟨Bool.and_eq_true_iff.2 ⟨h2,h3'⟩,h1⟩
theorem a6c{q:d9}(h:w9 q=true):PcA q [nmT q]:=a3T (c7v h)
theorem b84{s:d9}{ks:List Key}(b:Bool)(h:PcA s ks):PcA (a6h b s) (T0 b ks):=by
 cases b with
 |false=>exact h
 |true=>exact(PcA.app1 ((Q8 (by decide:a4D 40=true)).app' h) (Q8 (by decide:a4D 41=true)) rfl).lx
theorem c9p:PcB [44,32] [D8 44]:=(Q8 (by decide:a4D 44=true)).app a2G
theorem a8p{α:Type}(f:α->d9)(g:α->List Key):∀(l:List α),(∀x∈l,PcA (f x) (g x))->PcA (Lib.join (l.map f) [44,32]) (q9 (l.map g))
 |[],_=>PcB.nil.lx
 |[x],h=>by
  rw[List.map_cons,List.map_nil,Lib.join_one];exact h x (by simp)
 |x :: y :: r,h=>by
  have ih:=a8p f g (y :: r) fun z hz=>h z (List.mem_cons_of_mem _ hz)
  rw[List.map_cons,List.map_cons]at ih ⊢;rw[a59];exact(h x (by simp)).app (c9p.app' ih) rfl
theorem a5n{α β γ δ:Type}(f:α->β->γ)(g:δ->β):∀(ks:List α) (es:List δ),List.zipWith f ks (es.map g)=(ks.zip es).map fun z=>f z.1 (g z.2)
 |[],_=>rfl
 |_ :: _,[]=>rfl
 |k :: ks,e :: es=>by rw[List.map_cons,List.zipWith_cons_cons,a5n f g ks es];rfl
theorem b0m:∀(k x:Nat) (e:GExpr),WE k x e->PcA (Q2 e) (u9 e)
 |0,_,_,h=>h.elim
 |k+1,x,e,⟨_,h⟩=>by
  have ih:=fun x e h=>b0m k x e h
  rcases h with⟨t,h1,rfl⟩|⟨n,h1,rfl⟩|⟨t,h1,rfl⟩|⟨es,rfl,h1⟩|⟨a,b,rfl,h1,h2⟩|⟨ks,es,h1,h2,h3,rfl,h4⟩|⟨a,b,rfl,h1,h2⟩|⟨a,b,rfl,h1,h2⟩
  ·rw[c5y,d0a];exact(b85 h1).lx
  ·rw[c9D,d0b];have:Lib.itoa (n:Int)=Lib.decDigits n:=by unfold Lib.itoa;rw[if_neg (by omega)];simp
   rw[this];exact d72 h1
  ·rw[c5z,d0c];exact a6c h1
  ·rw[c5A,c5V];exact(PcA.app1 ((Q8 (by decide:a4D 91=true)).app' (a8p Q2 u9 es fun c hc=>ih _ c (h1 c hc))) (Q8 (by decide:a4D 93=true)) rfl).lx
  ·rw[c5B,c5W];have hj:=a8p Q2 u9 [a,b] fun c hc=>by
    simp only[List.mem_cons,List.mem_nil_iff,or_false]at hc;rcases hc with rfl|rfl
    ·exact ih _ _ h1
    ·exact ih _ _ h2
   have hw:PcB ([102,105,108,101,115] ++ [40]) ([nmT [102,105,108,101,115]] ++ [D8 40]):=PcA.app1 (a3T (by decide)) (Q8 (by decide:a4D 40=true)) rfl;exact(PcA.app1 (hw.app' hj) (Q8 (by decide:a4D 41=true)) rfl).lx
  ·rw[c5C,c5X,a5n,a5n];have hj:=a8p (fun z:d9×GExpr=>rpQ z.1 ++ [58,32]++Q2 z.2) (fun z=>[(2,z.1,0),D8 58]++u9 z.2) (ks.zip es) fun z hz=>by
    have m:=List.of_mem_zip hz;have hq:PcB (rpQ z.1 ++ [58,32]) ([(2,z.1,0)] ++ [D8 58]):=(b85 (h3 _ m.1)).app ((Q8 (by decide:a4D 58=true)).app a2G);exact hq.app' (ih _ _ (h4 _ m.2))
   have hw:PcB ([99,104,111,111,115,101] ++ [32,123]) ([nmT [99,104,111,111,115,101]] ++ [D8 123]):=PcA.app1 (a3T (by decide)) (a2G.app (Q8 (by decide:a4D 123=true))) rfl;exact(PcA.app1 (hw.app' hj) (Q8 (by decide:a4D 125=true)) rfl).lx
  ·rw[c5D,c5Y];have hm:PcB [32,43,32] [D8 43]:=a2G.app ((Q8 (by decide:a4D 43=true)).app a2G);exact(PcA.app1 (b84 _ (ih _ _ h1)) hm rfl).app' (b84 _ (ih _ _ h2))
  ·rw[c5E,c5Z];have hm:PcB [32,61,61,32] [(4,[61,61],0)]:=a2G.app (d41.app a2G);exact(PcA.app1 (b84 _ (ih _ _ h1)) hm rfl).app' (b84 _ (ih _ _ h2))
def lnS(d:Nat)(s:d9):d9:=List.replicate (2*d) 32++s ++ [10]
def a82(f:GExpr->d9)(q:d9×GExpr):d9:=q.1 ++ [32,61,32]++f q.2
mutual
def prS:GStmt->Nat->d9 | .mk k q t ps ag E b l a,d=>if k=1 then lnS d (q ++ [32,61,32]++Q2 E ++ [59])else if k=2 then lnS d (q ++ [40]++Lib.join (ag.map (a82 Q2)) [44,32] ++ [41,59])else if k=3 then lnS d ([109,97,99,114,111,32]++q ++ [40]++Lib.join ps [44,32] ++ [41] ++ [32,123])++(Y6 b (d+1)++lnS d [125])else if k=4 then lnS d ([102,111,114,32]++q ++ [32,105,110,32]++Q2 E ++ [32,123])++(Y6 b (d+1)++lnS d [125])else if k=5 then lnS d ([105,102,32]++Q2 E ++ [32,123])++(Y6 b (d+1)++((if l.isEmpty then []else lnS d ([125,32,101,108,115,101] ++ [32,123])++Y6 l (d+1))++lnS d [125]))else if k=6 then lnS d ([117,115,101,32]++rpQ t ++ [59])else []
def Y6:List GStmt->Nat->d9 | [],_=>[]|s :: l,d=>prS s d++Y6 l d
end
def a3P(f:GExpr->List Key)(q:d9×GExpr):List Key:=[nmT q.1,D8 61]++f q.2
mutual
def tkS:GStmt->List Key | .mk k q t ps ag E b l a=>if k=1 then [nmT q,D8 61]++u9 E ++ [D8 59]else if k=2 then [nmT q,D8 40]++q9 (ag.map (a3P u9)) ++ [D8 41,D8 59]else if k=3 then [nmT [109,97,99,114,111],nmT q,D8 40]++q9 (ps.map fun p=>[nmT p]) ++ [D8 41,D8 123]++(J7 b ++ [D8 125])else if k=4 then [nmT [102,111,114],nmT q,nmT [105,110]]++u9 E ++ [D8 123]++(J7 b ++ [D8 125])else if k=5 then [nmT [105,102]]++u9 E ++ [D8 123]++(J7 b++((if l.isEmpty then []else [D8 125,nmT [101,108,115,101],D8 123]++J7 l) ++ [D8 125]))else if k=6 then [nmT [117,115,101],(2,t,0),D8 59]else []
def J7:List GStmt->List Key | []=>[]|s :: l=>tkS s++J7 l
end
theorem a7y(d:Nat):Y6 [] d=[]:=by rw[Y6]
theorem a4f(s:GStmt)(l:List GStmt)(d:Nat):Y6 (s :: l) d=prS s d++Y6 l d:=by rw[Y6]
theorem b0y:J7 []=[]:=by rw[J7]
theorem a0L(s:GStmt)(l:List GStmt):J7 (s :: l)=tkS s++J7 l:=by rw[J7]
def WS:Nat->Nat->GStmt->Prop|0,_,_=>False|k+1,x,s=>x<30/\((∃q E a m,w9 q=true/\WE m (x+1) E/\s = .mk 1 q [] [] [] E [] [] a)\/(∃q ag a m,w9 q=true/\(∀c∈ag,w9 c.1=true/\WE m (x+1) c.2)/\s = .mk 2 q [] [] ag zE [] [] a)\/(∃q ps b a,w9 q=true/\(∀c∈ps,w9 c=true)/\(∀c∈b,WS k (x+1) c)/\s = .mk 3 q [] ps [] zE b [] a)\/(∃q E b a m,w9 q=true/\WE m (x+1) E/\(∀c∈b,WS k (x+1) c)/\s = .mk 4 q [] [] [] E b [] a)\/(∃E b l a m,WE m (x+1) E/\(∀c∈b,WS k (x+1) c)/\(∀c∈l,WS k (x+1) c)/\s = .mk 5 [] [] [] [] E b l a)\/(∃(t:d9) (a:Int),t.all O5=true/\s = .mk 6 [] t [] [] zE [] [] a))
section
variable(q t:d9)(ps:List d9)(ag:List (d9×GExpr))(E:GExpr)(b l:List GStmt)(a:Int)(d:Nat)
theorem c01:prS (.mk 1 q t ps ag E b l a) d=lnS d (q ++ [32,61,32]++Q2 E ++ [59]):=by rw[prS];rfl
theorem c02:prS (.mk 2 q t ps ag E b l a) d=lnS d (q ++ [40]++Lib.join (ag.map (a82 Q2)) [44,32] ++ [41,59]):=by rw[prS];rfl
theorem c03:prS (.mk 3 q t ps ag E b l a) d=lnS d ([109,97,99,114,111,32]++q ++ [40]++Lib.join ps [44,32] ++ [41] ++ [32,123])++(Y6 b (d+1)++lnS d [125]):=by rw[prS];rfl
theorem c04:prS (.mk 4 q t ps ag E b l a) d=lnS d ([102,111,114,32]++q ++ [32,105,110,32]++Q2 E ++ [32,123])++(Y6 b (d+1)++lnS d [125]):=by rw[prS];rfl
theorem c05:prS (.mk 5 q t ps ag E b l a) d=lnS d ([105,102,32]++Q2 E ++ [32,123])++(Y6 b (d+1)++((if l.isEmpty then []else lnS d ([125,32,101,108,115,101] ++ [32,123])++Y6 l (d+1))++lnS d [125])):=by rw[prS];rfl
theorem c06:prS (.mk 6 q t ps ag E b l a) d=lnS d ([117,115,101,32]++rpQ t ++ [59]):=by rw[prS];rfl
theorem d0e:tkS (.mk 1 q t ps ag E b l a)=[nmT q,D8 61]++u9 E ++ [D8 59]:=by rw[tkS];rfl
theorem d0f:tkS (.mk 2 q t ps ag E b l a)=[nmT q,D8 40]++q9 (ag.map (a3P u9)) ++ [D8 41,D8 59]:=by rw[tkS];rfl
theorem d0g:tkS (.mk 3 q t ps ag E b l a)=[nmT [109,97,99,114,111],nmT q,D8 40]++q9 (ps.map fun p=>[nmT p]) ++ [D8 41,D8 123]++(J7 b ++ [D8 125]):=by rw[tkS];rfl
theorem d0h:tkS (.mk 4 q t ps ag E b l a)=[nmT [102,111,114],nmT q,nmT [105,110]]++u9 E ++ [D8 123]++(J7 b ++ [D8 125]):=by rw[tkS];rfl
theorem d0i:tkS (.mk 5 q t ps ag E b l a)=[nmT [105,102]]++u9 E ++ [D8 123]++(J7 b++((if l.isEmpty then []else [D8 125,nmT [101,108,115,101],D8 123]++J7 l) ++ [D8 125])):=by rw[tkS];rfl
theorem d0j:tkS (.mk 6 q t ps ag E b l a)=[nmT [117,115,101],(2,t,0),D8 59]:=by rw[tkS];rfl
end
theorem b2T{s:d9}{ks:List Key}(d:Nat)(h:PcA s ks):PcB (lnS d s) ks:=by
 have h1:PcA (List.replicate (2*d) 32++s) ([]++ks):=(c9q _).app' h;have h2:=PcA.app1 h1 e0g rfl;rw[List.nil_append,List.append_nil]at h2;exact h2
theorem b3k:PcB [32,123] [D8 123]:=a2G.app (Q8 (by decide:a4D 123=true))
theorem b4y{k x d:Nat}(ih:∀c,WS k x c->PcB (prS c d) (tkS c)):∀l:List GStmt,(∀c∈l,WS k x c)->PcB (Y6 l d) (J7 l)
 |[],_=>by rw[a7y,b0y];exact PcB.nil
 |s :: l,h=>by
  rw[a4f,a0L];exact(ih s (h s (by simp))).app (b4y ih l fun c hc=>h c (List.mem_cons_of_mem _ hc))
theorem c5t:∀(k x:Nat) (s:GStmt),WS k x s->∀d,PcB (prS s d) (tkS s)
 |0,_,_,h,_=>h.elim
 |k+1,x,s,⟨_,h⟩,d=>by
  have ihs:=fun(l:List GStmt) (hl:∀c∈l,WS k (x+1) c)=>b4y (d:=d+1) (fun c hc=>c5t k (x+1) c hc (d+1)) l hl
  have hcl:PcB (lnS d [125]) [D8 125]:=b2T d (Q8 (by decide:a4D 125=true)).lx;have heq:PcB [32,61,32] [D8 61]:=by
   have h1:PcB ([61] ++ [32]) ([D8 61] ++ []):=PcA.app1 e0f a2G rfl;exact a2G.app h1
  rcases h with⟨q,E,a,m,h1,h2,rfl⟩|⟨q,ag,a,m,h1,h2,rfl⟩|⟨q,ps,b,a,h1,h2,h3,rfl⟩|⟨q,E,b,a,m,h1,h2,h3,rfl⟩|⟨E,b,l,a,m,h1,h2,h3,rfl⟩|⟨t,a,h1,rfl⟩
  ·rw[c01,d0e];exact b2T d (PcA.app1 ((PcA.app1 (a6c h1) heq rfl).app' (b0m _ _ _ h2)) (Q8 (by decide:a4D 59=true)) rfl).lx
  ·rw[c02,d0f];have hj:=a8p (a82 Q2) (a3P u9) ag fun c hc=>(PcA.app1 (a6c (h2 c hc).1) heq rfl).app' (b0m _ _ _ (h2 c hc).2)
   have h3:PcB [41,59] [D8 41,D8 59]:=(Q8 (by decide:a4D 41=true)).app (Q8 (by decide:a4D 59=true));exact b2T d (PcA.app1 ((PcA.app1 (a6c h1) (Q8 (by decide:a4D 40=true)) rfl).app' hj) h3 rfl).lx
  ·rw[c03,d0g];have hj:=a8p (fun p:d9=>p) (fun p=>[nmT p]) ps fun c hc=>a6c (h2 c hc)
   rw[List.map_id']at hj;have hm:PcB ([109,97,99,114,111] ++ [32]) ([nmT [109,97,99,114,111]] ++ []):=PcA.app1 (a3T (by decide)) a2G rfl;have h4:=(PcA.app1 (PcA.app1 ((PcA.app1 (hm.app' (a6c h1)) (Q8 (by decide:a4D 40=true)) rfl).app' hj) (Q8 (by decide:a4D 41=true)) rfl).lx b3k rfl).lx;have h5:=(b2T d h4).app ((ihs b h3).app hcl);simpa using h5
  ·rw[c04,d0h];have hm:PcB ([102,111,114] ++ [32]) ([nmT [102,111,114]] ++ []):=PcA.app1 (a3T (by decide)) a2G rfl;have hi:PcB ([32]++([105,110] ++ [32])) ([]++([nmT [105,110]] ++ [])):=a2G.app (PcA.app1 (a3T (by decide)) a2G rfl);have h4:=(PcA.app1 ((PcA.app1 (hm.app' (a6c h1)) hi rfl).app' (b0m _ _ _ h2)) b3k rfl).lx;have h5:=(b2T d h4).app ((ihs b h3).app hcl);simpa using h5
  ·rw[c05,d0i];have hm:PcB ([105,102] ++ [32]) ([nmT [105,102]] ++ []):=PcA.app1 (a3T (by decide)) a2G rfl;have h4:=(PcA.app1 (hm.app' (b0m _ _ _ h1)) b3k rfl).lx;have he:PcB (if l.isEmpty then []else lnS d ([125,32,101,108,115,101] ++ [32,123])++Y6 l (d+1)) (if l.isEmpty then []else [D8 125,nmT [101,108,115,101],D8 123]++J7 l):=by
    cases l with
    |nil=>exact PcB.nil
    |cons c l=>
     have h6:PcB ([125]++([32] ++ [])) ([D8 125]++([] ++ [])):=(Q8 (by decide:a4D 125=true)).app (a2G.app PcB.nil);have h7:=(PcA.app1 (h6.app' (a3T (q:=[101,108,115,101]) (by decide))) b3k rfl).lx;exact(b2T d h7).app (ihs _ h3)
   have h5:=(b2T d h4).app ((ihs b h2).app (he.app hcl));simpa using h5
  ·rw[c06,d0j];have hm:PcB ([117,115,101] ++ [32]) ([nmT [117,115,101]] ++ []):=PcA.app1 (a3T (by decide)) a2G rfl;have h4:=(hm.app (b85 h1)).app (Q8 (by decide:a4D 59=true));exact b2T d h4.lx
theorem d42{k:Nat}{l:List GStmt}(h:∀c∈l,WS k 0 c):LK (Y6 l 0) (J7 l):=by
 have:=b4y (fun c hc=>c5t k 0 c hc 0) l h [] [] (.nil rfl);simpa using this
end
section
variable{N:Nat}
def At(w:List A6)(i:Nat)(ks:List Key):Prop:=∃r,(w.drop i).map d7Z=ks++r
section
variable{w:List A6}{i:Nat}
theorem At.app{a b:List Key}(h:At w i (a++b)):At w i a/\At w (i+a.length) b:=by
 obtain⟨r,h⟩:=h;refine⟨⟨b++r,by rw[h,List.append_assoc]⟩,r,?_⟩;have:=congrArg (List.drop a.length) h;rw[<-List.map_drop,List.drop_drop,List.append_assoc,List.drop_left]at this;exact this
theorem At.lt{q:Key}{ks:List Key}(h:At w i (q :: ks)):i<w.length:=by
 obtain⟨r,h⟩:=h;have:=congrArg List.length h;simp at this;omega
theorem At.le{ks:List Key}(h:At w i ks)(h0:ks ≠ []):i+ks.length<=w.length:=by
 obtain⟨r,h⟩:=h;have h1:=congrArg List.length h;have h2:=List.length_pos_iff.2 h0;simp at h1;omega
theorem At.hd{k n:Int}{t:d9}{ks:List Key}(h:At w i ((k,t,n) :: ks)):∃hi:i<w.length,w[i].1=k/\w[i].2.1=t/\w[i].2.2.1=n:=by
 have hi:=h.lt;obtain⟨r,h⟩:=h;rw[List.drop_eq_getElem_cons hi,List.map_cons,List.cons_append]at h;have h1:=(List.cons.inj h).1;unfold d7Z at h1;simp only[Prod.mk.injEq]at h1;exact⟨hi,h1⟩
theorem At.tl{q:Key}{ks:List Key}(h:At w i (q :: ks)):At w (i+1) ks:=(At.app (a:=[q]) h).2
theorem At.is{k n:Int}{t:d9}{ks:List Key}(h:At w i ((k,t,n) :: ks))(k':Int)(t':d9):N4 w i k' t'=(k==k'&&t==t'):=by
 obtain⟨hi,h1,h2,_⟩:=h.hd;rw[b10 hi,h1,h2]
theorem At.sign{c:UInt8}{ks:List Key}(h:At w i (D8 c :: ks)):N4 w i 4 [c]=true:=by rw[h.is];simp
theorem At.word{q:d9}{ks:List Key}(h:At w i (nmT q :: ks)):N4 w i 1 q=true:=by rw[h.is];simp
theorem At.name{q:d9}{ks:List Key}(h:At w i (nmT q :: ks))(hq:w9 q=true):X1 w i=some q:=by
 obtain⟨hi,h1,h2,_⟩:=h.hd;unfold X1;rw[List.getElem?_eq_getElem hi];simp[h1,h2,hq]
theorem At.text{t:d9}{n:Int}{ks:List Key}(h:At w i ((2,t,n) :: ks)):a4H w i=some t:=by
 obtain⟨hi,h1,h2,_⟩:=h.hd;unfold a4H;rw[List.getElem?_eq_getElem hi];simp[h1,h2]
end
theorem a1K{q s:d9}(h:w9 q=true)(hs:s∈a6U):q≠s:=by
 rintro rfl;cases q with
 |nil=>cases h
 |cons c q=>
  simp only[w9,Bool.and_eq_true,Bool.not_eq_true']at h;have:=List.any_eq_false.1 h.2.2.2 _ hs;simp at this
def b9w(q:Key):Bool:=q.1 !=4||q.2.1==[40]||q.2.1==[91]
theorem c0V{s:List Key}(b:Bool)(h:∃q ks,s=q :: ks/\b9w q=true):∃q ks,T0 b s=q :: ks/\b9w q=true:=by
 cases b with
 |false=>exact h
 |true=>exact⟨_,_,rfl,by decide⟩
theorem b3w:∀(k x:Nat) (e:GExpr),WE k x e->∃q ks,u9 e=q :: ks/\b9w q=true
 |0,_,_,h=>h.elim
 |k+1,x,e,⟨_,h⟩=>by
  rcases h with⟨t,h1,rfl⟩|⟨n,h1,rfl⟩|⟨t,h1,rfl⟩|⟨es,rfl,h1⟩|⟨a,b,rfl,h1,h2⟩|⟨ks,es,h1,h2,h3,rfl,h4⟩|⟨a,b,rfl,h1,h2⟩|⟨a,b,rfl,h1,h2⟩
  ·rw[d0a];exact⟨_,_,rfl,rfl⟩
  ·rw[d0b];exact⟨_,_,rfl,rfl⟩
  ·rw[d0c];exact⟨_,_,rfl,rfl⟩
  ·rw[c5V];exact⟨_,_,rfl,by decide⟩
  ·rw[c5W];exact⟨_,_,rfl,by decide⟩
  ·rw[c5X];exact⟨_,_,rfl,by decide⟩
  ·rw[c5Y];obtain⟨q,l,g1,g2⟩:=c0V (Z7 7 a.kind 0) (b3w k _ a h1);rw[g1];exact⟨q,_,rfl,g2⟩
  ·rw[c5Z];obtain⟨q,l,g1,g2⟩:=c0V (Z7 8 a.kind 0) (b3w k _ a h1);rw[g1];exact⟨q,_,rfl,g2⟩
theorem a08{k x:Nat}{e:GExpr}(h:WE k x e):0<(u9 e).length:=by
 obtain⟨q,l,g1,_⟩:=b3w k x e h;rw[g1];simp
theorem At.start{w:List A6}{i k x:Nat}{e:GExpr}{r:List Key}(h:WE k x e)(ha:At w i (u9 e++r)){c:UInt8}(hc:c≠40/\c≠91):N4 w i 4 [c]=false:=by
 obtain⟨⟨a,b,n⟩,l,g1,g2⟩:=b3w k x e h;rw[g1]at ha;rw[At.is (ks:=l++r) ha];unfold b9w at g2;by_cases h4:a=4
 ·subst h4;have:b=[40]\/b=[91]:=by simpa using g2
  rcases this with rfl|rfl
  ·simp[Ne.symm hc.1]
  ·simp[Ne.symm hc.2]
 ·simp[h4]
def c5M(w:List A6)(j:Nat):Prop:=N4 w j 4 [43]=false/\N4 w j 4 [61,61]=false
theorem At.stop{w:List A6}{i:Nat}{c:UInt8}{ks:List Key}(h:At w i (D8 c :: ks))(hc:c≠43):c5M w i:=by
 refine⟨?_,?_⟩
 ·rw[h.is];simp[hc]
 ·rw[h.is];simp
def Mok(c:Nat)(T:Mk):Prop:=∀m∈T,0<=m.1/\0<=m.2/\m.2+(c:Int)<30
theorem Mok.nil{c:Nat}:Mok c []:=fun m h=>by simp at h
theorem Mok.app{c:Nat}{T U:Mk}(h:Mok c T)(g:Mok c U):Mok c (T++U):=fun m hm=>by
 rcases List.mem_append.1 hm with hm|hm
 ·exact h m hm
 ·exact g m hm
theorem Mok.up{c:Nat}{T:Mk}(h:Mok (c+1) T):Mok c (T.map (sh 1)):=fun m hm=>by
 obtain⟨y,hy,rfl⟩:=List.mem_map.1 hm;have:=h y hy;unfold sh;exact⟨this.1,by simp only;omega,by simp only;omega⟩
def c8x(w:List A6)(e0:Int)(F:RX)(y c i:Nat)(E:GExpr)(j:Nat):Prop:=∀(M:Mk) (p:Int),M.length<=i->∃T:Mk,Mok c T/\T.length+i<=j/\F (y:Int) (i:Int) e0 false p w M=some (E,(j:Int),e0,false,p,w,M++T)
def a40(w:List A6)(e0:Int)(F:RX)(L:Nat):Prop:=∀(k x y c:Nat) (e:GExpr) (i:Nat),x=y+c->WE k x e->(u9 e).length<L->At w i (u9 e)->c5M w (i+(u9 e).length)->c8x w e0 F y c i e (i+(u9 e).length)
theorem a3k(x y:List Key)(r:List (List Key)):q9 (x :: y :: r)=x++([D8 44]++q9 (y :: r)):=rfl
theorem b11:∀{l:List (List Key)} {s:List Key},s∈l->s.length<=(q9 l).length
 |[x],s,h=>by rw[List.mem_singleton.1 h];exact Nat.le_refl _
 |x :: y :: r,s,h=>by
  rw[a3k];simp only[List.length_append];rcases List.mem_cons.1 h with rfl|h
  ·omega
  ·have:=b11 h;omega
theorem a5J:∀{l:List (List Key)},(∀s∈l,0<s.length)->l.length<=(q9 l).length
 |[],_=>Nat.le_refl _
 |[x],h=>h x (by simp)
 |x :: y :: r,h=>by
  rw[a3k];have:=a5J (l:=y :: r) fun s hs=>h s (List.mem_cons_of_mem _ hs)
  have h1:=h x (by simp);simp only[List.length_append,List.length_cons]at this ⊢;omega
section
variable{w:List A6}{e0:Int}{R:RX}{L:Nat}
theorem a7X{y:Nat}(h:y<=1000):IntKind.i64.wrap ((y:Int)+1)=((y+1:Nat):Int):=Q1 (by omega) (by omega)
theorem b2a{n:Nat}{x1:Int}{k1:Int->Int->Bool->Int->List A6->Mk->List GExpr->RO}{a e p:Int}{b:Bool}{M:Mk}{ys:List GExpr}:
  y9 N R x1 k1 (n+1) a e b p w M ys=F7 N R x1 k1 (y9 N R x1 k1 n) a e b p w M ys:=rfl
theorem c0I(V:Wc N w e0)(hR:a40 w e0 R L){k x y c:Nat}(hx:x=y+c)(hy:y<30){K:Int->Int->Bool->Int->List A6->Mk->List GExpr->RO}{p:Int}:
  ∀(es:List GExpr) (f i:Nat) (M:Mk) (ys:List GExpr) (r:List Key),es ≠ []->(∀d∈es,WE k (x+1) d/\(u9 d).length<L)->es.length<f->M.length<=i->ys.length<=i->At w i (q9 (es.map u9)++D8 93 :: r)->
  ∃T,Mok c T/\T.length<=(q9 (es.map u9)).length/\y9 N R (y:Int) K f (i:Int) e0 false p w M ys=K ((i+(q9 (es.map u9)).length:Nat):Int) e0 false p w (M++T) (ys++es)
 |[],_,_,_,_,_,h0,_,_,_,_,_=>absurd rfl h0
 |[e],f,i,M,ys,r,_,hes,hf,hM,hys,ha=>by
  obtain⟨f,rfl⟩:∃q,f=q+1:=⟨f-1,by simp at hf;omega⟩;obtain⟨he,hl⟩:=hes e (by simp);have hwl:=V.wl;simp only[List.map_cons,List.map_nil,q9]at ha ⊢;have h93:=At.start he ha (c:=93) (by decide);obtain⟨a1,a2⟩:=ha.app;have hle:=a1.le (by have:=a08 he;intro h;rw[h]at this;simp at this);obtain⟨T,t1,t2,t3⟩:=hR k (x+1) (y+1) c e i (by omega) he hl a1 (a2.stop (by decide)) M p hM;refine⟨T,t1,by omega,?_⟩;have hc:N4 w (i+(u9 e).length) 4 [44]=false:=by rw[a2.is];decide
  have fitE':=a9B (l:=ys) (z:=e) (by omega);rw[b2a];unfold F7;simp only[Bool.not_false,d7,Y8,h93,a8,a7X (show y<=1000 by omega),t3,GExpr.eta,fitE',p8 hc,ite_self];cases decide ((ys.length:Int)>0)<;>simp only[d7,d6]
 |e :: e' :: es,f,i,M,ys,r,_,hes,hf,hM,hys,ha=>by
  obtain⟨f,rfl⟩:∃q,f=q+1:=⟨f-1,by simp at hf;omega⟩;obtain⟨he,hl⟩:=hes e (by simp);have hwl:=V.wl;rw[List.map_cons,List.map_cons,a3k,<-List.map_cons]at ha ⊢;rw[List.append_assoc]at ha;have h93:=At.start he ha (c:=93) (by decide);obtain⟨a1,a2⟩:=ha.app;have hle:=a1.le (by have:=a08 he;intro h;rw[h]at this;simp at this);have hp:=a08 he;obtain⟨T,t1,t2,t3⟩:=hR k (x+1) (y+1) c e i (by omega) he hl a1 (At.stop (c:=44) (ks:=q9 (List.map u9 (e' :: es))++D8 93 :: r) a2 (by decide)) M p hM;have hc:N4 w (i+(u9 e).length) 4 [44]=true:=At.sign (ks:=q9 (List.map u9 (e' :: es))++D8 93 :: r) a2;have fitE':=a9B (l:=ys) (z:=e) (by omega);obtain⟨U,u1,u2,u3⟩:=c0I V hR hx hy (K:=K) (p:=p) (e' :: es) f (i+(u9 e).length+1) (M++T) (ys ++ [e]) r (by simp) (fun d hd=>hes d (List.mem_cons_of_mem _ hd)) (by simp at hf ⊢;omega) (by rw[List.length_append];omega) (by rw[List.length_append];simp;omega) (At.tl (q:=D8 44) a2);refine⟨T++U,t1.app u1,by simp only[List.length_append,List.length_cons,List.length_nil];omega,?_⟩;rw[b2a];unfold F7;simp only[Bool.not_false,d7,Y8,h93,a8,a7X (show y<=1000 by omega),t3,GExpr.eta,fitE',F0 V.wl hc,Bool.not_true,d6];rw[u3];have e1:i+(u9 e++([D8 44]++q9 (List.map u9 (e' :: es)))).length=i+(u9 e).length+1+(q9 (List.map u9 (e' :: es))).length:=by simp only[List.length_append,List.length_cons,List.length_nil];omega
  rw[e1,List.append_assoc,List.append_assoc];cases decide ((ys.length:Int)>0)<;>simp only[d7,d6,List.cons_append,List.nil_append]
abbrev KC:Type:=Int->Int->Bool->Int->List A6->Mk->List d9->List GExpr->RO
theorem c0b(V:Wc N w e0)(hR:a40 w e0 R L){k x y c:Nat}(hx:x=y+c)(hy:y<30){K:KC}{p:Int}:
  ∀(zs:List (d9×GExpr)) (f i:Nat) (M:Mk) (ks:List d9) (ys:List GExpr) (r:List Key),zs ≠ []->(∀d∈zs,WE k (x+1) d.2/\(u9 d.2).length<L)->zs.length<f->M.length<=i->ks.length<=i->ys.length<=i->At w i (q9 (zs.map fun z=>[(2,z.1,0),D8 58]++u9 z.2)++D8 125 :: r)->
  ∃T,Mok c T/\T.length<=(q9 (zs.map fun z=>[(2,z.1,0),D8 58]++u9 z.2)).length/\v7 N R (y:Int) K f (i:Int) e0 false p w M ks ys=K ((i+(q9 (zs.map fun z=>[(2,z.1,0),D8 58]++u9 z.2)).length:Nat):Int) e0 false p w (M++T) (ks++zs.map (·.1)) (ys++zs.map (·.2))
 |[],_,_,_,_,_,_,h0,_,_,_,_,_,_=>absurd rfl h0
 |(q,e) :: zs,f,i,M,ks,ys,r,_,hes,hf,hM,hks,hys,ha=>by
  obtain⟨f,rfl⟩:∃q,f=q+1:=⟨f-1,by simp at hf;omega⟩;obtain⟨he,hl⟩:=hes (q,e) (by simp);have hwl:=V.wl;have hp:=a08 he;obtain⟨rest,hrest,hcase⟩:∃rest,(q9 (List.map (fun z:d9×GExpr=>[((2:Int),z.1,(0:Int)),D8 58]++u9 z.2) ((q,e) :: zs))++D8 125 :: r=((2:Int),q,(0:Int)) :: D8 58 :: (u9 e++rest))/\((zs=[]/\rest=D8 125 :: r)\/(zs ≠ []/\rest=D8 44 :: (q9 (List.map (fun z:d9×GExpr=>[((2:Int),z.1,(0:Int)),D8 58]++u9 z.2) zs)++D8 125 :: r))):=by
   cases zs with
   |nil=>exact⟨_,rfl,.inl ⟨rfl,rfl⟩⟩
   |cons z zs=>exact⟨_,by rw[List.map_cons,List.map_cons,a3k];simp,.inr ⟨by simp,rfl⟩⟩
  rw[hrest]at ha;have b1:=ha.tl;have b2:=b1.tl;have b3:=b2.app;have hle:=b3.1.le (by intro h;rw[h]at hp;simp at hp);have hst:c5M w (i+1+1+(u9 e).length):=by
   rcases hcase with⟨_,hr⟩|⟨_,hr⟩
   ·rw[hr]at b3;exact b3.2.stop (by decide)
   ·rw[hr]at b3;exact b3.2.stop (by decide)
  obtain⟨T,t1,t2,t3⟩:=hR k (x+1) (y+1) c e (i+1+1) (by omega) he hl b3.1 hst M p (by omega);have fitE':=a9B (l:=ys) (z:=e) (by omega);have fitS':=b0i (l:=ks) (z:=q) (by omega);have step:v7 N R (y:Int) K (f+1) (i:Int) e0 false p w M ks ys=j8 (l5 N (4:Int) ([44]:d9) ((i+1+1+(u9 e).length:Nat):Int) e0 false p w (M++T)) fun t37=>
    br (!t37.1) (K t37.2.1 t37.2.2.1 t37.2.2.2.1 t37.2.2.2.2.1 t37.2.2.2.2.2.1 t37.2.2.2.2.2.2 (ks ++ [q]) (ys ++ [e])) (v7 N R (y:Int) K f t37.2.1 t37.2.2.1 t37.2.2.2.1 t37.2.2.2.2.1 t37.2.2.2.2.2.1 t37.2.2.2.2.2.2 (ks ++ [q]) (ys ++ [e])):=by
   show q8 N R (y:Int) K (v7 N R (y:Int) K f) (i:Int) e0 false p w M ks ys=_;unfold q8;simp only[Bool.not_false,d7,b0s V.wl ha.text,a8,x7 V.wl b1.sign,a7X (show y<=1000 by omega),t3,GExpr.eta,fitE',fitS',C2,p7]
  rcases hcase with⟨rfl,hr⟩|⟨hz,hr⟩
  ·rw[hr]at b3;have hc:N4 w (i+1+1+(u9 e).length) 4 [44]=false:=by rw[b3.2.is];decide
   refine⟨T,t1,by simp only[List.map_cons,List.map_nil,q9,List.length_append,List.length_cons,List.length_nil];omega,?_⟩;rw[step,p8 hc,a8];simp only[Bool.not_false,d7,List.map_cons,List.map_nil,q9,List.length_append,List.length_cons,List.length_nil];rw[show i+1+1+(u9 e).length=i+(0+1+1+(u9 e).length) by omega]
  ·rw[hr]at b3;have hc:N4 w (i+1+1+(u9 e).length) 4 [44]=true:=b3.2.sign;obtain⟨U,u1,u2,u3⟩:=c0b V hR hx hy (K:=K) (p:=p) zs f (i+1+1+(u9 e).length+1) (M++T) (ks ++ [q]) (ys ++ [e]) r hz (fun d hd=>hes d (List.mem_cons_of_mem _ hd)) (by simp at hf ⊢;omega) (by rw[List.length_append];omega) (by rw[List.length_append];simp;omega) (by rw[List.length_append];simp;omega) b3.2.tl;have hlen:(q9 (List.map (fun z:d9×GExpr=>[((2:Int),z.1,(0:Int)),D8 58]++u9 z.2) ((q,e) :: zs))).length=2+(u9 e).length+1+(q9 (List.map (fun z:d9×GExpr=>[((2:Int),z.1,(0:Int)),D8 58]++u9 z.2) zs)).length:=by
    have:=congrArg List.length hrest;rw[hr]at this;simp only[List.length_append,List.length_cons]at this;omega
   refine⟨T++U,t1.app u1,by rw[List.length_append,hlen];omega,?_⟩;rw[step,F0 V.wl hc,a8];simp only[Bool.not_true,d6];rw[u3,hlen,show i+(2+(u9 e).length+1+(q9 (List.map (fun z:d9×GExpr=>[((2:Int),z.1,(0:Int)),D8 58]++u9 z.2) zs)).length)=i+1+1+(u9 e).length+1+(q9 (List.map (fun z:d9×GExpr=>[((2:Int),z.1,(0:Int)),D8 58]++u9 z.2) zs)).length by omega];simp
theorem c9i:([102,105,108,101,115]:d9)∈a6U/\([99,104,111,111,115,101]:d9)∈a6U:=by decide
theorem b88(V:Wc N w e0)(i:Nat){x y c:Nat}(hx:x=y+c)(hx2:x<30):Mok c [(atS w i e0,(y:Int))]:=fun m hm=>by
 rw[List.mem_singleton.1 hm];exact⟨b8N V.wok V.e0 i,by simp only;omega,by simp only;omega⟩
theorem d47(V:Wc N w e0)(hR:a40 w e0 R L){k x y c i:Nat}{e:GExpr}(hx:x=y+c)(hx2:x<30)(he:WE k (x+1) e)(hl:(u9 e).length<L)(ha:At w i ([D8 40]++u9 e ++ [D8 41])):
  c8x w e0 (x5 N R) y c i e (i+([D8 40]++u9 e ++ [D8 41]).length):=by
 intro M p hM;have hwl:=V.wl;rw[List.append_assoc]at ha;have hi:i<w.length:=At.lt (q:=D8 40) ha;obtain⟨_,h1,h2,_⟩:=At.hd (k:=4) (t:=[40]) (n:=0) (ks:=u9 e ++ [D8 41]) ha;have b0:N4 w i 4 [40]=true:=At.sign (ks:=u9 e ++ [D8 41]) ha;have a1:At w (i+1) (u9 e ++ [D8 41]):=At.tl (q:=D8 40) ha;obtain⟨a2,a3⟩:=a1.app;have hp:=a08 he;have hM1:(M ++ [(atS w i e0,(y:Int))]).length<=i+1:=by simp;omega
 obtain⟨T,t1,t2,t3⟩:=hR k (x+1) (y+1) c e (i+1) (by omega) he hl a2 (a3.stop (by decide)) (M ++ [(atS w i e0,(y:Int))]) p hM1;refine⟨[(atS w i e0,(y:Int))]++T,(b88 V i hx hx2).app t1,by simp only[List.length_append,List.length_cons,List.length_nil];omega,?_⟩;unfold x5;rw[d6,a3r (by omega),a8];simp only;rw[decide_eq_false (show ¬(i:Int)>=(w.length:Int) by omega),d6,m6 _ hi,a8,h1];simp only[show((4:Int)==2)=false by decide,show((4:Int)==3)=false by decide,d6,F0 V.wl b0,a8,d7,a7X (show y<=1000 by omega),t3,x7 V.wl a3.sign,GExpr.eta];rw[show i+([D8 40]++u9 e ++ [D8 41]).length=i+1+(u9 e).length+1 by simp only[List.length_append,List.length_cons,List.length_nil];omega,List.append_assoc]
theorem c0T(V:Wc N w e0)(hR:a40 w e0 R L){k x y c i:Nat}{e:GExpr}(hx:x=y+c)(he:WE (k+1) x e)(h7:e.kind≠7)(h8:e.kind≠8)(hl:(u9 e).length<=L)(ha:At w i (u9 e)):
  c8x w e0 (x5 N R) y c i e (i+(u9 e).length):=by
 intro M p hM;have hwl:=V.wl;obtain⟨hx2,he⟩:=he;have hmk:=b88 V i hx hx2;have hM1:(M ++ [(atS w i e0,(y:Int))]).length<=i+1:=by simp;omega
 rcases he with⟨t,h1,rfl⟩|⟨n,h1,rfl⟩|⟨t,h1,rfl⟩|⟨es,rfl,h1⟩|⟨a,b,rfl,h1,h2⟩|⟨ks,es,h1,h2,h3,rfl,h4⟩|⟨a,b,rfl,h1,h2⟩|⟨a,b,rfl,h1,h2⟩
 ·rw[d0a]at ha ⊢;obtain⟨hi,g1,g2,_⟩:=ha.hd;refine⟨_,hmk,by simp;omega,?_⟩;unfold x5;rw[d6,a3r (by omega),a8];simp only;rw[decide_eq_false (show ¬(i:Int)>=(w.length:Int) by omega),d6,m6 _ hi,a8,g1,g2];simp only[show((2:Int)==2)=true by decide,d7,b4F V.wl hi];rfl
 ·rw[d0b]at ha ⊢;obtain⟨hi,g1,g2,g3⟩:=ha.hd;refine⟨_,hmk,by simp;omega,?_⟩;unfold x5;rw[d6,a3r (by omega),a8];simp only;rw[decide_eq_false (show ¬(i:Int)>=(w.length:Int) by omega),d6,m6 _ hi,a8,g1,g3];simp only[show((3:Int)==2)=false by decide,show((3:Int)==3)=true by decide,d6,d7,b4F V.wl hi];rfl
 ·rw[d0c]at ha ⊢;obtain⟨hi,g1,g2,g3⟩:=ha.hd;have c1:N4 w i 4 [40]=false:=by rw[ha.is];rfl
  have c2:N4 w i 4 [91]=false:=by rw[ha.is];rfl
  have c3:N4 w i 1 [102,105,108,101,115]=false:=by rw[ha.is];simp[a1K h1 c9i.1]
  have c4:N4 w i 1 [99,104,111,111,115,101]=false:=by rw[ha.is];simp[a1K h1 c9i.2]
  refine⟨_,hmk,by simp;omega,?_⟩;unfold x5;rw[d6,a3r (by omega),a8];simp only;rw[decide_eq_false (show ¬(i:Int)>=(w.length:Int) by omega),d6,m6 _ hi,a8,g1];simp only[show((1:Int)==2)=false by decide,show((1:Int)==3)=false by decide,d6,p8 c1,p8 c2,p8 c3,p8 c4,a8,a1M V.hN V.wl V.wok (ha.name h1)];rfl
 ·rw[c5V,List.append_assoc]at ha;obtain⟨hi,g1,g2,g3⟩:=At.hd (k:=4) (t:=[91]) (n:=0) (ks:=q9 (es.map u9) ++ [D8 93]) ha;have c1:N4 w i 4 [40]=false:=by rw[At.is (ks:=q9 (es.map u9) ++ [D8 93]) ha];rfl
  have c2:N4 w i 4 [91]=true:=At.sign (ks:=q9 (es.map u9) ++ [D8 93]) ha;have a1:At w (i+1) (q9 (es.map u9) ++ [D8 93]):=At.tl (q:=D8 91) ha;have a2:=a1.app.2;have hll:(u9 (GExpr.mk 4 [] 0 [] es)).length=(q9 (es.map u9)).length+2:=by rw[c5V];simp only[List.length_append,List.length_cons,List.length_nil];omega
  have hkid:∀d∈es,WE k (x+1) d/\(u9 d).length<L:=fun d hd=>⟨h1 d hd,by
   have:(u9 d).length<=(q9 (es.map u9)).length:=b11 (List.mem_map_of_mem hd);omega⟩
  obtain⟨f,hf,hf2⟩:=a4k V.hN;have hloop:∃T,Mok c T/\T.length<=(q9 (es.map u9)).length/\y9 N R (y:Int) (fun o0_0_1 o0_0_2 o0_0_3 o0_0_4 o0_w1 o0_w2 o0_w900001=>
         j8 (k8 N ([93]:d9) o0_0_1 o0_0_2 o0_0_3 o0_0_4 o0_w1 o0_w2) fun t115=>
         some (GExpr.mk (4:Int) ([]:d9) (0:Int) ([]:List d9) o0_w900001,t115)) N ((i+1:Nat):Int) e0 false p w (M ++ [(atS w i e0,(y:Int))]) []=some (GExpr.mk (4:Int) ([]:d9) (0:Int) ([]:List d9) es,((i+1+(q9 (es.map u9)).length+1:Nat):Int),e0,false,p,w,M ++ [(atS w i e0,(y:Int))]++T):=by
   cases es with
   |nil=>
    refine⟨[],Mok.nil,by simp,?_⟩;have a2':At w (i+1) [D8 93]:=a1;rw[hf,b2a];unfold F7;simp only[Bool.not_false,d7,List.length_nil,show decide (((0:Nat):Int)>0)=false by decide,d6,Y8,a2'.sign,a8,Bool.not_true,x7 V.wl a2'.sign,List.append_nil];rfl
   |cons e1 es=>
    have hlen:(e1 :: es).length<N:=by
     have h5:=a5J (l:=(e1 :: es).map u9) (fun s hs=>by
      obtain⟨d,hd,rfl⟩:=List.mem_map.1 hs;exact a08 (h1 d hd))
     rw[List.length_map]at h5;have h6:=a1.app.1.le (by intro h;rw[h]at h5;simp at h5);omega
    obtain⟨T,t1,t2,t3⟩:=c0I V hR hx (by omega) (p:=p) (K:=fun o0_0_1 o0_0_2 o0_0_3 o0_0_4 o0_w1 o0_w2 o0_w900001=>
         j8 (k8 N ([93]:d9) o0_0_1 o0_0_2 o0_0_3 o0_0_4 o0_w1 o0_w2) fun t115=>
         some (GExpr.mk (4:Int) ([]:d9) (0:Int) ([]:List d9) o0_w900001,t115)) (e1 :: es) N (i+1) (M ++ [(atS w i e0,(y:Int))]) [] [] (by simp) hkid hlen hM1 (by simp) a1
    refine⟨T,t1,t2,?_⟩;rw[t3];simp only[x7 V.wl a2.sign,a8,List.nil_append]
  obtain⟨T,t1,t2,t3⟩:=hloop;refine⟨[(atS w i e0,(y:Int))]++T,hmk.app t1,by rw[hll];simp only[List.length_append,List.length_cons,List.length_nil];omega,?_⟩;unfold x5;rw[d6,a3r (by omega),a8];simp only;rw[decide_eq_false (show ¬(i:Int)>=(w.length:Int) by omega),d6,m6 _ hi,a8,g1];simp only[show((4:Int)==2)=false by decide,show((4:Int)==3)=false by decide,d6,p8 c1,F0 V.wl c2,a8,d7];rw[t3,hll,show i+((q9 (es.map u9)).length+2)=i+1+(q9 (es.map u9)).length+1 by omega,List.append_assoc]
 ·rw[c5W]at ha;have hll:(u9 (GExpr.mk 5 [] 0 [] [a,b])).length=(u9 a).length+(u9 b).length+4:=by rw[c5W];simp only[List.map_cons,List.map_nil,q9,List.length_append,List.length_cons,List.length_nil];omega
  have ha':At w i (nmT [102,105,108,101,115] :: D8 40 :: (u9 a++D8 44 :: (u9 b ++ [D8 41]))):=by
   have e:[nmT [102,105,108,101,115],D8 40]++q9 (List.map u9 [a,b]) ++ [D8 41]=nmT [102,105,108,101,115] :: D8 40 :: (u9 a++D8 44 :: (u9 b ++ [D8 41])):=by simp[q9]
   rw[e]at ha;exact ha
  obtain⟨hi,g1,g2,g3⟩:=ha'.hd;have c1:N4 w i 4 [40]=false:=by rw[ha'.is];rfl
  have c2:N4 w i 4 [91]=false:=by rw[ha'.is];rfl
  have b1:=ha'.tl;have b2:=b1.tl.app;have b3:=b2.2.tl.app;have pa:=a08 h1;have pb':=a08 h2;obtain⟨T,t1,t2,t3⟩:=hR k (x+1) (y+1) c a (i+1+1) (by omega) h1 (by omega) b2.1 (b2.2.stop (by decide)) (M ++ [(atS w i e0,(y:Int))]) p (by omega);obtain⟨U,u1,u2,u3⟩:=hR k (x+1) (y+1) c b (i+1+1+(u9 a).length+1) (by omega) h2 (by omega) b3.1 (b3.2.stop (by decide)) (M ++ [(atS w i e0,(y:Int))]++T) p (by rw[List.length_append];omega);refine⟨[(atS w i e0,(y:Int))]++T++U,(hmk.app t1).app u1,by rw[hll];simp only[List.length_append,List.length_cons,List.length_nil];omega,?_⟩;unfold x5;rw[d6,a3r (by omega),a8];simp only;rw[decide_eq_false (show ¬(i:Int)>=(w.length:Int) by omega),d6,m6 _ hi,a8,g1];simp only[show((1:Int)==2)=false by decide,show((1:Int)==3)=false by decide,d6,p8 c1,p8 c2,F0 V.wl ha'.word,a8,d7,x7 V.wl b1.sign,a7X (show y<=1000 by omega),t3,x7 V.wl b2.2.sign,u3,x7 V.wl b3.2.sign,GExpr.eta];rw[hll,show i+((u9 a).length+(u9 b).length+4)=i+1+1+(u9 a).length+1+(u9 b).length+1 by omega];simp only[List.append_assoc]
 ·rw[c5X,a5n]at ha;have hz:ks.zip es ≠ []:=by
   intro h;have:=congrArg List.length h;rw[List.length_zip,h1,Nat.min_self]at this;have h5:es.length=0:=this;omega
  have ha':At w i (nmT [99,104,111,111,115,101] :: D8 123 :: (q9 ((ks.zip es).map fun z=>[(2,z.1,0),D8 58]++u9 z.2) ++ [D8 125])):=by
   simpa using ha
  have hll:(u9 (GExpr.mk 6 [] 0 ks es)).length=(q9 ((ks.zip es).map fun z=>[(2,z.1,0),D8 58]++u9 z.2)).length+3:=by rw[c5X,a5n];simp only[List.length_append,List.length_cons,List.length_nil];omega
  obtain⟨hi,g1,g2,g3⟩:=ha'.hd;have c1:N4 w i 4 [40]=false:=by rw[ha'.is];rfl
  have c2:N4 w i 4 [91]=false:=by rw[ha'.is];rfl
  have c3:N4 w i 1 [102,105,108,101,115]=false:=by rw[ha'.is];rfl
  have b1:=ha'.tl;have b2:=b1.tl;have b3:=b2.app.2;have hkid:∀d∈ks.zip es,WE k (x+1) d.2/\(u9 d.2).length<L:=fun d hd=>⟨h4 _ (List.of_mem_zip hd).2,by
   have h5:([(2,d.1,0),D8 58]++u9 d.2).length<=(q9 ((ks.zip es).map fun z=>[(2,z.1,0),D8 58]++u9 z.2)).length:=b11 (List.mem_map_of_mem (f:=fun z:d9×GExpr=>[((2:Int),z.1,(0:Int)),D8 58]++u9 z.2) hd);simp only[List.length_append,List.length_cons,List.length_nil]at h5;omega⟩
  obtain⟨f,hf,hf2⟩:=a4k V.hN;have hlen:(ks.zip es).length<N:=by
   have h5:=a5J (l:=(ks.zip es).map fun z=>[(2,z.1,0),D8 58]++u9 z.2) (fun s hs=>by
    obtain⟨d,hd,rfl⟩:=List.mem_map.1 hs;simp)
   rw[List.length_map]at h5;have h6:=b2.app.1.le (by intro h;have:=List.length_pos_iff.2 hz;rw[h,List.length_nil]at h5;omega);exact Nat.lt_of_le_of_lt (Nat.le_trans h5 (Nat.le_trans (Nat.le_add_left _ _) h6)) (by omega)
  obtain⟨T,t1,t2,t3⟩:=c0b V hR hx (by omega) (p:=p) (K:=fun o0_0_1 o0_0_2 o0_0_3 o0_0_4 o0_w1 o0_w2 o0_w900001 o0_w900002=>
   j8 (k8 N ([125]:d9) o0_0_1 o0_0_2 o0_0_3 o0_0_4 o0_w1 o0_w2) fun t40=>
   some (GExpr.mk (6:Int) ([]:d9) (0:Int) o0_w900001 o0_w900002,t40)) (ks.zip es) N (i+1+1) (M ++ [(atS w i e0,(y:Int))]) [] [] [] hz hkid hlen (by omega) (by simp) (by simp) b2
  refine⟨[(atS w i e0,(y:Int))]++T,hmk.app t1,by rw[hll];simp only[List.length_append,List.length_cons,List.length_nil];omega,?_⟩;unfold x5;rw[d6,a3r (by omega),a8];simp only;rw[decide_eq_false (show ¬(i:Int)>=(w.length:Int) by omega),d6,m6 _ hi,a8,g1];simp only[show((1:Int)==2)=false by decide,show((1:Int)==3)=false by decide,d6,p8 c1,p8 c2,p8 c3,F0 V.wl ha'.word,a8,d7];unfold W0;simp only[x7 V.wl b1.sign,a8];rw[t3];simp only[x7 V.wl b3.sign,a8,List.nil_append,GExpr.eta];rw[hll,show i+((q9 ((ks.zip es).map fun z=>[(2,z.1,0),D8 58]++u9 z.2)).length+3)=i+1+1+(q9 ((ks.zip es).map fun z=>[(2,z.1,0),D8 58]++u9 z.2)).length+1 by omega,List.append_assoc];rw[List.map_fst_zip (by omega),List.map_snd_zip (by omega)]
 ·exact absurd rfl h7
 ·exact absurd rfl h8
end
end
noncomputable section
variable{N:Nat}
section
variable{w:List A6}{e0:Int}{R:RX}{L:Nat}
theorem b9c(V:Wc N w e0)(hR:a40 w e0 R L){k x y c i:Nat}{e:GExpr}(b:Bool)(hx:x=y+c)(hx2:x<30)(he:WE k (x+pb b) e)(hb:b=false->e.kind≠7/\e.kind≠8)(hl:(u9 e).length<L)(ha:At w i (T0 b (u9 e))):
  c8x w e0 (x5 N R) y c i e (i+(T0 b (u9 e)).length):=by
 cases b with
 |true=>exact d47 V hR hx hx2 he hl ha
 |false=>
  cases k with
  |zero=>exact he.elim
  |succ k=>exact c0T V hR hx he (hb rfl).1 (hb rfl).2 (Nat.le_of_lt hl) ha
abbrev KS:Type:=Int->Int->Bool->Int->List A6->Mk->Int->d9->Int->List d9->List GExpr->RO
theorem b8c{n:Nat}{x1:Int}{k1:KS}{a e p:Int}{b:Bool}{M:Mk}{q1 q3:Int}{q2:d9}{q4:List d9}{q5:List GExpr}:
  C7 N R x1 k1 (n+1) a e b p w M q1 q2 q3 q4 q5=H4 N R x1 k1 (C7 N R x1 k1 n) a e b p w M q1 q2 q3 q4 q5:=rfl
noncomputable def d5q(N:Nat)(R:RX)(K:KS)(f:Nat)(y a e p:Int)(w:List A6)(M:Mk):RO:=j8 (x5 N R y a e false p w M) fun t9=>C7 N R y K f t9.2.1 t9.2.2.1 t9.2.2.2.1 t9.2.2.2.2.1 t9.2.2.2.2.2.1 t9.2.2.2.2.2.2 t9.1.kind t9.1.text t9.1.number t9.1.keys t9.1.kids
theorem d7S(q i:Int):Z7 7 q i=(q==8||(q==7&&i==1)):=by unfold Z7;simp
theorem e0a(q i:Int):Z7 8 q i=(q==8):=by unfold Z7;simp
theorem c5O(V:Wc N w e0)(hR:a40 w e0 R L)(K:KS)(p:Int):∀(k x y c:Nat) (e:GExpr) (i:Nat),x=y+c->WE k x e->e.kind≠8->(u9 e).length<=L->At w i (u9 e)->∀(M:Mk),M.length<=i->∀f,(u9 e).length<f->
  ∃(T:Mk) (f':Nat),Mok c T/\T.length<=(u9 e).length/\f<=f'+(u9 e).length/\d5q N R K f (y:Int) (i:Int) e0 p w M=C7 N R (y:Int) K f' ((i+(u9 e).length:Nat):Int) e0 false p w (M++T) e.kind e.text e.number e.keys e.kids
 |0,_,_,_,_,_,_,h,_,_,_,_,_,_,_=>h.elim
 |k+1,x,y,c,e,i,hx,he,h8,hl,ha,M,hM,f,hf=>by
  by_cases h7:e.kind=7
  case neg=>
   obtain⟨T,t1,t2,t3⟩:=c0T V hR hx he h7 h8 hl ha M p hM;refine⟨T,f,t1,by omega,by omega,?_⟩;unfold d5q;rw[t3,a8]
  obtain⟨hx2,he⟩:=he;rcases he with⟨t,h1,rfl⟩|⟨n,h1,rfl⟩|⟨t,h1,rfl⟩|⟨es,rfl,h1⟩|⟨a,b,rfl,h1,h2⟩|⟨ks,es,h1,h2,h3,rfl,h4⟩|⟨a,b,rfl,h1,h2⟩|⟨a,b,rfl,h1,h2⟩
  ·exact absurd h7 (by simp[E4])
  ·exact absurd h7 (by simp[E4])
  ·exact absurd h7 (by simp[E4])
  ·exact absurd h7 (by simp[E4])
  ·exact absurd h7 (by simp[E4])
  ·exact absurd h7 (by simp[E4])
  ·have hll:(u9 (GExpr.mk 7 [] 0 [] [a,b])).length=(T0 (Z7 7 a.kind 0) (u9 a)).length+1+(T0 (Z7 7 b.kind 1) (u9 b)).length:=by rw[c5Y];simp only[List.length_append,List.length_cons,List.length_nil]
   rw[c5Y]at ha;obtain⟨ha',a3⟩:=ha.app;obtain⟨a1,a2⟩:=ha'.app;rw[List.length_append]at a3;have hpar:∀b s,(s:List Key).length<=(T0 b s).length:=fun b s=>by cases b<;>simp[T0];omega
   have pa:=hpar (Z7 7 a.kind 0) (u9 a);have pb':=hpar (Z7 7 b.kind 1) (u9 b);have qa:=a08 h1;have qb:=a08 h2;have first:∃(T:Mk) (f':Nat),Mok c T/\T.length<=(T0 (Z7 7 a.kind 0) (u9 a)).length/\f<=f'+(T0 (Z7 7 a.kind 0) (u9 a)).length/\d5q N R K f (y:Int) (i:Int) e0 p w M=C7 N R (y:Int) K f' ((i+(T0 (Z7 7 a.kind 0) (u9 a)).length:Nat):Int) e0 false p w (M++T) a.kind a.text a.number a.keys a.kids:=by
    by_cases h:a.kind=8
    ·have hbk:Z7 7 a.kind 0=true:=by rw[d7S,h];rfl
     rw[hbk]at h1 a1 ⊢;rw[hbk]at pa hll;obtain⟨T,t1,t2,t3⟩:=b9c V hR true hx hx2 h1 (fun h=>by cases h) (by omega) a1 M p hM;refine⟨T,f,t1,by omega,by omega,?_⟩;unfold d5q;rw[t3,a8]
    ·have hbk:Z7 7 a.kind 0=false:=by rw[d7S];simp[h]
     rw[hbk]at h1 a1 ⊢;rw[hbk]at pa hll;exact c5O V hR K p k x y c a i hx h1 h (by have:(T0 false (u9 a)).length=(u9 a).length:=rfl;omega) a1 M hM f (by have:(T0 false (u9 a)).length=(u9 a).length:=rfl;omega)
   obtain⟨T,f1,t1,t2,t3,t4⟩:=first
   obtain⟨f2,rfl⟩:∃q,f1=q+1:=⟨f1-1,by omega⟩;have hplus:N4 w (i+(T0 (Z7 7 a.kind 0) (u9 a)).length) 4 [43]=true:=a2.sign;obtain⟨U,u1,u2,u3⟩:=b9c V hR (Z7 7 b.kind 1) hx hx2 h2 (fun h=>by
    rw[d7S]at h;simp only[Bool.or_eq_false_iff,Bool.and_eq_false_iff,beq_eq_false_iff_ne,ne_eq]at h;refine⟨fun h7=>?_,h.1⟩;rcases h.2 with h|h
    ·exact h h7
    ·exact h trivial) (by omega) a3 (M++T) p (by rw[List.length_append];simp only[List.length_cons,List.length_nil];omega)
   refine⟨T++U,f2,t1.app u1,by rw[hll,List.length_append];simp only[List.length_cons,List.length_nil]at u2;omega,by omega,?_⟩;rw[t4,b8c];unfold H4;have e1:i+((T0 (Z7 7 a.kind 0) (u9 a)).length + [D8 43].length)=i+(T0 (Z7 7 a.kind 0) (u9 a)).length+1:=rfl;rw[e1]at u3;simp only[F0 V.wl hplus,a8,d7,u3,GExpr.eta];rw[hll,<-List.append_assoc,show i+((T0 (Z7 7 a.kind 0) (u9 a)).length+1+(T0 (Z7 7 b.kind 1) (u9 b)).length)=i+(T0 (Z7 7 a.kind 0) (u9 a)).length+1+(T0 (Z7 7 b.kind 1) (u9 b)).length by omega];rfl
  ·exact absurd h7 (by simp[E4])
theorem b5f(V:Wc N w e0)(hR:a40 w e0 R L){k x y c i:Nat}{e:GExpr}(b:Bool)(hx:x=y+c)(hx2:x<30)(he:WE k (x+pb b) e)(hb:b=false->e.kind≠8)(hl:(u9 e).length<=L)(hl2:b=true->(u9 e).length<L)(ha:At w i (T0 b (u9 e)))
  (hst:N4 w (i+(T0 b (u9 e)).length) 4 [43]=false):
  c8x w e0 (P7 N R) y c i e (i+(T0 b (u9 e)).length):=by
 intro M p hM;have hwl:=V.wl;have hp:=a08 he;have hple:(T0 b (u9 e)).length<=50000:=by
  have:=ha.le (by intro h;have h2:=congrArg List.length h;cases b<;>simp[T0]at h2;rw[h2]at hp;simp at hp);omega
 obtain⟨f,hf,hf2⟩:=a4k V.hN;have key:∃(T:Mk) (f':Nat),Mok c T/\T.length<=(T0 b (u9 e)).length/\N<=f'+(T0 b (u9 e)).length/\P7 N R (y:Int) (i:Int) e0 false p w M=C7 N R (y:Int) (fun o0_0_1 o0_0_2 o0_0_3 o0_0_4 o0_w1 o0_w2 o0_1005_0 o0_1005_1 o0_1005_2 o0_1005_3 o0_1005_4=>
   some (GExpr.mk o0_1005_0 o0_1005_1 o0_1005_2 o0_1005_3 o0_1005_4,o0_0_1,o0_0_2,o0_0_3,o0_0_4,o0_w1,o0_w2)) f' ((i+(T0 b (u9 e)).length:Nat):Int) e0 false p w (M++T) e.kind e.text e.number e.keys e.kids:=by
  cases b with
  |true=>
   obtain⟨T,t1,t2,t3⟩:=b9c V hR true hx hx2 he (fun h=>by cases h) (hl2 rfl) ha M p hM;refine⟨T,N,t1,by omega,by omega,?_⟩;unfold P7;rw[t3,a8]
  |false=>
   have hpl:(T0 false (u9 e)).length=(u9 e).length:=rfl;obtain⟨T,f',t1,t2,t3,t4⟩:=c5O V hR (fun o0_0_1 o0_0_2 o0_0_3 o0_0_4 o0_w1 o0_w2 o0_1005_0 o0_1005_1 o0_1005_2 o0_1005_3 o0_1005_4=>
    some (GExpr.mk o0_1005_0 o0_1005_1 o0_1005_2 o0_1005_3 o0_1005_4,o0_0_1,o0_0_2,o0_0_3,o0_0_4,o0_w1,o0_w2)) p k x y c e i hx he (hb rfl) hl ha M hM N (by omega)
   exact⟨T,f',t1,t2,t3,t4⟩
 obtain⟨T,f',t1,t2,t3,t4⟩:=key;obtain⟨f2,rfl⟩:∃q,f'=q+1:=⟨f'-1,by omega⟩;refine⟨T,t1,by omega,?_⟩;rw[t4,b8c];unfold H4;simp only[p8 hst,a8,d6,GExpr.eta]
end
theorem a7i{w:List A6}{e0:Int}(V:Wc N w e0):∀n,a40 w e0 (y6 N n) n
 |0=>fun _ _ _ _ _ _ _ _ h=>absurd h (by omega)
 |n+1=>by
  have hR:=a7i V n;intro k x y c e i hx he hl ha hst M p hM;have hwl:=V.wl;have hx2:x<30:=by
   cases k with
   |zero=>exact he.elim
   |succ k=>exact he.1
  show ∃T:Mk,Mok c T/\_/\I7 N (y6 N n) (y:Int) (i:Int) e0 false p w M=_;unfold I7;rw[d6];by_cases h8:e.kind=8
  case neg=>
   obtain⟨T,t1,t2,t3⟩:=b5f V hR false hx hx2 he (fun _=>h8) (by omega) (fun h=>by cases h) ha hst.1 M p hM;refine⟨T,t1,t2,?_⟩;have hpl:(T0 false (u9 e)).length=(u9 e).length:=rfl;rw[hpl]at t3;simp only[t3,a8,p8 hst.2,Bool.not_false,d7,GExpr.eta]
  cases k with
  |zero=>exact he.elim
  |succ k=>
  obtain⟨_,he⟩:=he;rcases he with⟨t,h1,rfl⟩|⟨n,h1,rfl⟩|⟨t,h1,rfl⟩|⟨es,rfl,h1⟩|⟨a,b,rfl,h1,h2⟩|⟨ks,es,h1,h2,h3,rfl,h4⟩|⟨a,b,rfl,h1,h2⟩|⟨a,b,rfl,h1,h2⟩
  ·exact absurd h8 (by simp[E4])
  ·exact absurd h8 (by simp[E4])
  ·exact absurd h8 (by simp[E4])
  ·exact absurd h8 (by simp[E4])
  ·exact absurd h8 (by simp[E4])
  ·exact absurd h8 (by simp[E4])
  ·exact absurd h8 (by simp[E4])
  ·have hll:(u9 (GExpr.mk 8 [] 0 [] [a,b])).length=(T0 (Z7 8 a.kind 0) (u9 a)).length+1+(T0 (Z7 8 b.kind 1) (u9 b)).length:=by rw[c5Z];simp only[List.length_append,List.length_cons,List.length_nil]
   rw[hll]at hst;rw[c5Z]at ha;obtain⟨ha',a3⟩:=ha.app;obtain⟨a1,a2⟩:=ha'.app;have e1:i+(T0 (Z7 8 a.kind 0) (u9 a) ++ [((4:Int),([61,61]:d9),(0:Int))]).length=i+(T0 (Z7 8 a.kind 0) (u9 a)).length+1:=by rw[List.length_append];rfl
   rw[e1]at a3;have hpar:∀b s,(s:List Key).length<=(T0 b s).length:=fun b s=>by cases b<;>simp[T0];omega
   have pa:=hpar (Z7 8 a.kind 0) (u9 a);have pb':=hpar (Z7 8 b.kind 1) (u9 b);have qa:=a08 h1;have qb:=a08 h2;have hxa:∀{k x:Nat} {e:GExpr},WE k x e->x<30:=fun{k x e} h=>by
    cases k with
    |zero=>exact h.elim
    |succ k=>exact h.1
   have y1:=hxa h1;have y2:=hxa h2;have heq:N4 w (i+(T0 (Z7 8 a.kind 0) (u9 a)).length) 4 [61,61]=true:=by rw[a2.is];rfl
   have hnp:N4 w (i+(T0 (Z7 8 a.kind 0) (u9 a)).length) 4 [43]=false:=by rw[a2.is];rfl
   obtain⟨T,t1,t2,t3⟩:=b5f V hR (x:=x+1) (y:=y) (c:=c+1) (Z7 8 a.kind 0) (by omega) (by omega) h1 (fun h=>by rw[e0a]at h;simpa using h) (by omega) (fun _=>by omega) a1 hnp M p hM;obtain⟨U,u1,u2,u3⟩:=b5f V hR (x:=x+1) (y:=y+1) (c:=c) (Z7 8 b.kind 1) (by omega) (by omega) h2 (fun h=>by rw[e0a]at h;simpa using h) (by omega) (fun _=>by omega) a3 (by have:=hst.1;rw[show i+(T0 (Z7 8 a.kind 0) (u9 a)).length+1+(T0 (Z7 8 b.kind 1) (u9 b)).length=i+((T0 (Z7 8 a.kind 0) (u9 a)).length+1+(T0 (Z7 8 b.kind 1) (u9 b)).length) by omega];exact this) (M++T.map (sh 1)) p (by rw[List.length_append,List.length_map];omega);refine⟨T.map (sh 1)++U,t1.up.app u1,by rw[hll,List.length_append,List.length_map];omega,?_⟩;have hle1:=a2.le (by simp);simp only[t3,a8,F0 V.wl heq,Bool.not_true,d6,GExpr.eta,a7X (show y<=1000 by omega)];rw[b4Q V.hN T M N (fun m hm=>by have:=t1 m hm;omega) (by simp only[List.length_cons,List.length_nil]at hle1;omega) (by have:=V.hN;unfold I1 at this;simp only[List.length_cons,List.length_nil]at hle1;omega)];simp only[u3,a8,GExpr.eta];rw[hll,List.append_assoc,show i+((T0 (Z7 8 a.kind 0) (u9 a)).length+1+(T0 (Z7 8 b.kind 1) (u9 b)).length)=i+(T0 (Z7 8 a.kind 0) (u9 a)).length+1+(T0 (Z7 8 b.kind 1) (u9 b)).length by omega]
end
section
variable{N:Nat}
theorem EOk.kids{k:Nat}{e:GExpr}(h:EOk (k+1) e):e.kids.length<=50000/\∀c∈e.kids,EOk k c:=by
 have two:∀a b:GExpr,EOk k a->EOk k b->∀c ∈ [a,b],EOk k c:=fun a b ha hb c hc=>by
  rcases List.mem_cons.1 hc with rfl|hc
  ·exact ha
  ·rw[List.mem_singleton.1 hc];exact hb
 rcases h with⟨t,h1,rfl⟩|⟨m,rfl⟩|⟨t,h1,h2,rfl⟩|⟨es,h1,rfl,h3⟩|⟨a,b,rfl,h2,h3⟩|⟨ks,es,h0,hp,h1,h4,rfl,h3⟩|⟨a,b,rfl,h2,h3⟩|⟨a,b,rfl,h2,h3⟩
 ·exact⟨by simp[E9],by simp[E9]⟩
 ·exact⟨by simp[E9],by simp[E9]⟩
 ·exact⟨by simp[E9],by simp[E9]⟩
 ·exact⟨h1,h3⟩
 ·exact⟨by simp[E9],two a b h2 h3⟩
 ·exact⟨h1,h3⟩
 ·exact⟨by simp[E9],two a b h2 h3⟩
 ·exact⟨by simp[E9],two a b h2 h3⟩
def b8Y(G:GStmt):Bool:=G.kind==1||(G.kind==4||G.kind==5)
structure SParts(k:Nat)(G:GStmt):Prop where
 args:G.args.length<=50000/\∀q∈G.args,EOk 60000 q.2
 expr:(b8Y G=true/\EOk 60000 G.expr)\/(b8Y G=false/\G.expr=zE)
 body:G.body.length<=50000/\∀c∈G.body,SOk k c
 els:G.els.length<=50000/\∀c∈G.els,SOk k c
 kind:G.kind=1\/G.kind=2\/G.kind=3\/G.kind=4\/G.kind=5\/G.kind=6
theorem SOk.parts{k:Nat}{G:GStmt}(h:SOk (k+1) G):SParts k G:=by
 rcases h with⟨q,E,a,h1,h2,rfl⟩|⟨q,ag,a,h1,h2,h3,rfl⟩|⟨q,ps,b,a,h1,h2,h3,h4,h5,rfl⟩|⟨q,E,b,a,h1,h2,h3,h4,rfl⟩|⟨E,b,l,a,h1,h2,h3,h4,h5,rfl⟩|⟨t,a,h1,rfl⟩
 ·exact⟨⟨by simp[GStmt.args],by simp[GStmt.args]⟩,.inl ⟨rfl,h2⟩,⟨by simp[GStmt.body],by simp[GStmt.body]⟩,⟨by simp[GStmt.els],by simp[GStmt.els]⟩,.inl rfl⟩
 ·exact⟨⟨h2,fun q hq=>(h3 q hq).2⟩,.inr ⟨rfl,rfl⟩,⟨by simp[GStmt.body],by simp[GStmt.body]⟩,⟨by simp[GStmt.els],by simp[GStmt.els]⟩,.inr (.inl rfl)⟩
 ·exact⟨⟨by simp[GStmt.args],by simp[GStmt.args]⟩,.inr ⟨rfl,rfl⟩,⟨h4,h5⟩,⟨by simp[GStmt.els],by simp[GStmt.els]⟩,.inr (.inr (.inl rfl))⟩
 ·exact⟨⟨by simp[GStmt.args],by simp[GStmt.args]⟩,.inl ⟨rfl,h2⟩,⟨h3,h4⟩,⟨by simp[GStmt.els],by simp[GStmt.els]⟩,.inr (.inr (.inr (.inl rfl)))⟩
 ·exact⟨⟨by simp[GStmt.args],by simp[GStmt.args]⟩,.inl ⟨rfl,h1⟩,⟨h2,h3⟩,⟨h4,h5⟩,.inr (.inr (.inr (.inr (.inl rfl))))⟩
 ·exact⟨⟨by simp[GStmt.args],by simp[GStmt.args]⟩,.inr ⟨rfl,rfl⟩,⟨by simp[GStmt.body],by simp[GStmt.body]⟩,⟨by simp[GStmt.els],by simp[GStmt.els]⟩,.inr (.inr (.inr (.inr (.inr rfl))))⟩
end
section
variable{N:Nat}
section
variable(k a:Int)(q t:d9)(ps:List d9)(ag:List Ag)(E:GExpr)(b l:List GStmt)
theorem S0:(GStmt.mk k q t ps ag E b l a).kind=k:=rfl
theorem a0p:(GStmt.mk k q t ps ag E b l a).name=q:=rfl
theorem a0q:(GStmt.mk k q t ps ag E b l a).text=t:=rfl
theorem O9:(GStmt.mk k q t ps ag E b l a).params=ps:=rfl
theorem a0m:(GStmt.mk k q t ps ag E b l a).args=ag:=rfl
theorem a0o:(GStmt.mk k q t ps ag E b l a).expr=E:=rfl
theorem a0n:(GStmt.mk k q t ps ag E b l a).body=b:=rfl
theorem a1R:(GStmt.mk k q t ps ag E b l a).els=l:=rfl
end
end
section
variable{N:Nat}
theorem EOk.keys{k:Nat}{e:GExpr}(h:EOk (k+1) e):e.keys.length<=50000:=by
 rcases h with⟨t,h1,rfl⟩|⟨m,rfl⟩|⟨t,h1,h2,rfl⟩|⟨es,h1,rfl,h3⟩|⟨a,b,rfl,h2,h3⟩|⟨ks,es,h0,hp,h1,h4,rfl,h3⟩|⟨a,b,rfl,h2,h3⟩|⟨a,b,rfl,h2,h3⟩<;>simp[Y1]
 omega
theorem b72{R:GExpr->GExpr->Option Bool}{es:List GExpr}(hl:es.length<=50000)(h:∀c∈es,R c c=some true):∀(u f j:Nat),j+u=es.length->u<f->f1I N R (es.length:Int) es es (some true) f (j:Int)=some true
 |0,f,j,hj,hf=>by
  obtain⟨f,rfl⟩:∃q,f=q+1:=⟨f-1,by omega⟩;obtain rfl:j=es.length:=by omega
  show a3M _ _ _ _ _ _ _ _=_;unfold a3M;rw[Z9,d6]
 |u+1,f,j,hj,hf=>by
  obtain⟨f,rfl⟩:∃q,f=q+1:=⟨f-1,by omega⟩;have hlt:j<es.length:=by omega
  have ih:=b72 hl h u f (j+1) (by omega) (by omega);show a3M _ _ _ _ _ _ _ _=_;unfold a3M;rw[V8 hlt,d7,m6 _ hlt];simp only[a8,h _ (List.getElem_mem hlt),Bool.not_true,d6,Q1 (n:=(j:Int)+1) (m:=j+1) (by omega) (by omega),ih]
theorem c90(hN:I1<=N){R:GExpr->GExpr->Option Bool}{e:GExpr}(h1:e.keys.length<=50000)(h2:e.kids.length<=50000)(h:∀c∈e.kids,R c c=some true):a0C N R e e=some true:=by
 unfold a0C;have hk:=b72 (N:=N) h2 h e.kids.length N 0 (by omega) (by unfold I1 at hN;omega);rw[b7o hN e.keys e.keys (by unfold maxLen;omega) (by unfold maxLen;omega)];simp only[Int.natCast_zero]at hk;simp only[bne_self_eq_false,d6,beq_self_eq_true,Bool.not_true,a8,decide_true,hk]
theorem b2n(hN:I1<=N):∀(k:Nat) (e:GExpr),EOk k e->∀n,k<=n->Q9 N n e e=some true
 |0,e,h,_,_=>h.elim
 |k+1,e,h,n,hn=>by
  obtain⟨n,rfl⟩:∃q,n=q+1:=⟨n-1,by omega⟩;obtain⟨h1,h2⟩:=h.kids;exact c90 hN h.keys h1 fun c hc=>b2n hN k c (h2 c hc) n (by omega)
theorem c7J(hN:I1<=N){n:Nat}(hn:0<n):Q9 N n zE zE=some true:=by
 obtain⟨n,rfl⟩:∃q,n=q+1:=⟨n-1,by omega⟩;exact c90 hN (by simp[Y1]) (by simp[E9]) (by simp[E9])
theorem b71(hN:I1<=N){RR:List GStmt->List GStmt->Bool->Option Bool}{ag:List Ag}(hl:ag.length<=50000)(h:∀q∈ag,EOk 60000 q.2)(K:Option Bool):∀(u f j:Nat),j+u=ag.length->u<f->f62 N RR (ag.length:Int) ag ag K f (j:Int)=K
 |0,f,j,hj,hf=>by
  obtain⟨f,rfl⟩:∃q,f=q+1:=⟨f-1,by omega⟩;obtain rfl:j=ag.length:=by omega
  show f45 _ _ _ _ _ _ _ _=_;unfold f45;rw[Z9,d6]
 |u+1,f,j,hj,hf=>by
  obtain⟨f,rfl⟩:∃q,f=q+1:=⟨f-1,by omega⟩;have hlt:j<ag.length:=by omega
  have ih:=b71 hN (RR:=RR) hl h K u f (j+1) (by omega) (by omega);have hs:=b2n hN 60000 _ (h _ (List.getElem_mem hlt)) N (by unfold I1 at hN;omega);show f45 _ _ _ _ _ _ _ _=_;unfold f45;rw[V8 hlt,d7,m6 _ hlt];simp only[a8,beq_self_eq_true,Bool.not_true,d6,hs,Q1 (n:=(j:Int)+1) (m:=j+1) (by omega) (by omega),ih]
theorem SOk.params{k:Nat}{G:GStmt}(h:SOk (k+1) G):G.params.length<=50000:=by
 rcases h with⟨q,E,a,h1,h2,rfl⟩|⟨q,ag,a,h1,h2,h3,rfl⟩|⟨q,ps,b,a,h1,h2,h3,h4,h5,rfl⟩|⟨q,E,b,a,h1,h2,h3,h4,rfl⟩|⟨E,b,l,a,h1,h2,h3,h4,h5,rfl⟩|⟨t,a,h1,rfl⟩<;>simp[O9]
 omega
end
section
variable{N:Nat}
def z0(_:Int):Int:=0
mutual
def erS:GStmt->GStmt | .mk k n t ps ag x b e a=> .mk k n t ps ag x (erL b) (erL e) (z0 a)
def erL:List GStmt->List GStmt | []=>[]|s :: l=>erS s :: erL l
end
theorem b0d:∀l:List GStmt,erL l=l.map erS
 |[]=>by rw[erL];rfl
 |s :: l=>by rw[erL,b0d l];rfl
theorem X4(k:Int)(n t:d9)(ps:List d9)(ag:List (d9×GExpr))(x:GExpr)(b e:List GStmt)(a:Int):erS (.mk k n t ps ag x b e a) = .mk k n t ps ag x (erL b) (erL e) (z0 a):=by rw[erS]
theorem a8g(l:List GStmt):(erL l).length=l.length:=by rw[b0d,List.length_map]
theorem c9b{α β:Type}(f:α->β)(l:List α)(i:Int):m7 (l.map f) i=(m7 l i).map f:=by
 unfold m7;split
 ·rw[List.getElem?_map]
 ·rfl
theorem b8W(l:List GStmt)(i:Int):m7 (erL l) i=(m7 l i).map erS:=by rw[b0d,c9b]
theorem b8Q{α β R:Type}(x:Option α)(f:α->β)(k:β->Option R):j8 (x.map f) k=j8 x (fun t=>k (f t)):=by cases x<;>simp[j8]
end
section
variable{N:Nat}
theorem a7g(s:GStmt):(erS s).kind=s.kind:=by cases s;rw[X4];rfl
theorem b4i(s:GStmt):(erS s).name=s.name:=by cases s;rw[X4];rfl
theorem c0n(s:GStmt):(erS s).text=s.text:=by cases s;rw[X4];rfl
theorem a4o(s:GStmt):(erS s).params=s.params:=by cases s;rw[X4];rfl
theorem a5C(s:GStmt):(erS s).args=s.args:=by cases s;rw[X4];rfl
theorem b0f(s:GStmt):(erS s).expr=s.expr:=by cases s;rw[X4];rfl
theorem b0e(s:GStmt):(erS s).body=erL s.body:=by cases s;rw[X4];rfl
theorem b3h(s:GStmt):(erS s).els=erL s.els:=by cases s;rw[X4];rfl
theorem b3M{R:List GStmt->List GStmt->Bool->Option Bool}(hr:∀a b,R (erL a) (erL b) false=R a b false)(a b:List GStmt)(c:Int)(k:Option Bool):∀(n:Nat) (i:Int),b1J N R (erL b) false (erL a) c k n i=b1J N R b false a c k n i
 |0,_=>rfl
 |n+1,i=>by
  have ih:=b3M hr a b c k n;show a3H _ _ _ _ _ _ _ _ _=a3H _ _ _ _ _ _ _ _ _;unfold a3H;simp only[b8W,b8Q,hr,ih,a7g,b4i,c0n,a4o,a5C,b0f,b0e,b3h,d6]
theorem c8y{R:List GStmt->List GStmt->Bool->Option Bool}(hr:∀a b,R (erL a) (erL b) false=R a b false)(a b:List GStmt):E7 N R (erL a) (erL b) false=E7 N R a b false:=by
 unfold E7;simp only[b3M hr,a8g]
theorem b8I:∀(d:Nat) (a b:List GStmt),H2 N d (erL a) (erL b) false=H2 N d a b false
 |0,_,_=>rfl
 |d+1,a,b=>c8y (b8I d) a b
theorem b42(hN:I1<=N){k:Nat}{RR:List GStmt->List GStmt->Bool->Option Bool}(hB:∀l:List GStmt,l.length<=50000->(∀c∈l,SOk k c)->RR l l false=some true){Gs:List GStmt}(hl:Gs.length<=50000)(hG:∀G∈Gs,SOk (k+1) G):∀(u f j:Nat),j+u=Gs.length->u<f->
  b1J N RR Gs false Gs (Gs.length:Int) (some true) f (j:Int)=some true
 |0,f,j,hj,hf=>by
  obtain⟨f,rfl⟩:∃q,f=q+1:=⟨f-1,by omega⟩;obtain rfl:j=Gs.length:=by omega
  show a3H _ _ _ _ _ _ _ _ _=_;unfold a3H;rw[Z9,d6]
 |u+1,f,j,hj,hf=>by
  obtain⟨f,rfl⟩:∃q,f=q+1:=⟨f-1,by omega⟩;have hlt:j<Gs.length:=by omega
  have ih:=b42 hN hB hl hG u f (j+1) (by omega) (by omega);have hS:=hG _ (List.getElem_mem hlt);have P:=hS.parts;have e1:Q9 N N Gs[j].expr Gs[j].expr=some true:=by
   rcases P.expr with⟨_,h⟩|⟨_,h⟩
   ·exact b2n hN 60000 _ h N (by unfold I1 at hN;omega)
   ·rw[h];exact c7J hN (by unfold I1 at hN;omega)
  have ha:=fun K=>b71 hN (RR:=RR) P.args.1 P.args.2 K Gs[j].args.length N 0 (by omega) (by have:=P.args.1;unfold I1 at hN;omega)
  simp only[Int.natCast_zero]at ha;show a3H _ _ _ _ _ _ _ _ _=_;unfold a3H;rw[V8 hlt,d7,m6 _ hlt];simp only[a8,bne_self_eq_false,d6,beq_self_eq_true,Bool.not_true,b7o hN Gs[j].params Gs[j].params (by have:=hS.params;unfold maxLen;omega) (by have:=hS.params;unfold maxLen;omega),decide_true,d7,GExpr.eta,e1,hB _ P.body.1 P.body.2,hB _ P.els.1 P.els.2,ha,Q1 (n:=(j:Int)+1) (m:=j+1) (by omega) (by omega),ih]
theorem b43(hN:I1<=N):∀(k n:Nat),k<n->∀Gs:List GStmt,Gs.length<=50000->(∀G∈Gs,SOk k G)->H2 N n Gs Gs false=some true
 |k,0,h,_,_,_=>absurd h (by omega)
 |0,n+1,h,Gs,hl,hG=>by
  have:Gs=[]:=List.eq_nil_iff_forall_not_mem.2 fun G hg=>hG G hg
  subst this;show E7 N _ _ _ _=_;obtain⟨f,rfl,_⟩:=a4k hN;unfold E7;simp only[bne_self_eq_false,d6];show a3H (f+1) _ _ _ _ _ _ _ _=_;simp[a3H]
 |k+1,n+1,h,Gs,hl,hG=>by
  show E7 N _ _ _ _=_;have:=b42 hN (RR:=H2 N n) (fun l h1 h2=>b43 hN k n (by omega) l h1 h2) hl hG Gs.length N 0 (by omega) (by unfold I1 at hN;omega);unfold E7;simp only[bne_self_eq_false,d6];exact this
theorem d5n(hN:I1<=N){G G':List GStmt}(hl:G.length<=50000)(hG:∀g∈G,SOk 50001 g)(h:erL G=erL G'):H2 N N G G' false=some true:=by
 rw[<-b8I,<-h,b8I];exact b43 hN 50001 N (by unfold I1 at hN;omega) G hl hG
end
end Go.Proofs.YtolpmfhiegpohaaGreatDoor
