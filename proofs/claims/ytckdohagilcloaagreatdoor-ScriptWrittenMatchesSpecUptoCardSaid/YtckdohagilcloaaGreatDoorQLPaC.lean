/- % -/
import Derived.Test.YtckdohagilcloaaGreatDoorQLPaB
import Derived.Lib.Join
namespace Go.Proofs.YtckdohagilcloaaGreatDoor
set_option linter.unusedVariables false
set_option linter.unusedSimpArgs false
open Go Go.RowKit
section
def c9q(b:Bool)(s:d3):d3:=if b then [40]++s ++ [41]else s
def prK(k:Int)(qs:List Int)(ps:List d3)(i:Nat):d3:=c9q (brk k (qs.getD i 0) (i:Int)) (ps.getD i [])
def prX(k:Int)(t:d3)(n:Int)(ks:List d3)(qs:List Int)(ps:List d3):d3:=if k=1 then rpQ t else if k=2 then Lib.itoa n else if k=3 then t else if k=4 then [91]++Lib.join ps [44,32] ++ [93]else if k=5 then [102,105,108,101,115,40]++Lib.join ps [44,32] ++ [41]else if k=7 then prK 7 qs ps 0 ++ [32,43,32]++prK 7 qs ps 1 else if k=8 then prK 8 qs ps 0 ++ [32,61,61,32]++prK 8 qs ps 1 else [99,104,111,111,115,101,32,123]++Lib.join (List.zipWith (fun q p=>rpQ q ++ [58,32]++p) ks ps) [44,32] ++ [125]
mutual
def prE:GExpr->d3 | .mk k t n ks es=>prX k t n ks (es.map GExpr.kind) (d38 es)
def d38:List GExpr->List d3 | []=>[]|e :: es=>prE e :: d38 es
end
theorem c1y:∀es,d38 es=es.map prE
 |[]=>by rw[d38];rfl
 |e :: es=>by rw[d38,c1y es];rfl
theorem a6N(k:Int)(t:d3)(n:Int)(ks:List d3)(es:List GExpr):prE (.mk k t n ks es)=prX k t n ks (es.map GExpr.kind) (es.map prE):=by rw[prE,c1y]
abbrev S5(c:UInt8):Key:=(4,[c],0)
abbrev nmT(q:d3):Key:=(1,q,0)
def c9r(b:Bool)(s:List Key):List Key:=if b then [S5 40]++s ++ [S5 41]else s
def a1o:List (List Key)->List Key | []=>[] | [x]=>x|x :: y :: r=>x++([S5 44]++a1o (y :: r))
def tkK(k:Int)(qs:List Int)(ps:List (List Key))(i:Nat):List Key:=c9r (brk k (qs.getD i 0) (i:Int)) (ps.getD i [])
def tkX(k:Int)(t:d3)(n:Int)(ks:List d3)(qs:List Int)(ps:List (List Key)):List Key:=if k=1 then [(2,t,0)]else if k=2 then [(3,[],n)]else if k=3 then [nmT t]else if k=4 then [S5 91]++a1o ps ++ [S5 93]else if k=5 then [nmT [102,105,108,101,115],S5 40]++a1o ps ++ [S5 41]else if k=7 then tkK 7 qs ps 0 ++ [S5 43]++tkK 7 qs ps 1 else if k=8 then tkK 8 qs ps 0 ++ [(4,[61,61],0)]++tkK 8 qs ps 1 else [nmT [99,104,111,111,115,101],S5 123]++a1o (List.zipWith (fun q p=>[(2,q,0),S5 58]++p) ks ps) ++ [S5 125]
mutual
def tkE:GExpr->List Key | .mk k t n ks es=>tkX k t n ks (es.map GExpr.kind) (d4O es)
def d4O:List GExpr->List (List Key) | []=>[]|e :: es=>tkE e :: d4O es
end
theorem c1W:∀es,d4O es=es.map tkE
 |[]=>by rw[d4O];rfl
 |e :: es=>by rw[d4O,c1W es];rfl
theorem a68(k:Int)(t:d3)(n:Int)(ks:List d3)(es:List GExpr):tkE (.mk k t n ks es)=tkX k t n ks (es.map GExpr.kind) (es.map tkE):=by rw[tkE,c1W]
def pb(b:Bool):Nat:=if b then 1 else 0
def WE:Nat->Nat->GExpr->Prop|0,_,_=>False|k+1,x,e=>x<30/\((∃t:d3,t.all y0=true/\e = .mk 1 t 0 [] [])\/(∃n:Nat,n<=999999999/\e = .mk 2 [] (n:Int) [] [])\/(∃t:d3,B7 t=true/\e = .mk 3 t 0 [] [])\/(∃es:List GExpr,e = .mk 4 [] 0 [] es/\∀c∈es,WE k (x+1) c)\/(∃a b,e = .mk 5 [] 0 [] [a,b]/\WE k (x+1) a/\WE k (x+1) b)\/(∃(ks:List d3) (es:List GExpr),ks.length=es.length/\0<es.length/\(∀s∈ks,s.all y0=true)/\e = .mk 6 [] 0 ks es/\∀c∈es,WE k (x+1) c)\/(∃a b,e = .mk 7 [] 0 [] [a,b]/\WE k (x+pb (brk 7 a.kind 0)) a/\WE k (x+pb (brk 7 b.kind 1)) b)\/(∃a b,e = .mk 8 [] 0 [] [a,b]/\WE k (x+1+pb (brk 8 a.kind 0)) a/\WE k (x+1+pb (brk 8 b.kind 1)) b))
section
variable(t:d3)(n:Int)(ks:List d3)(es:List GExpr)(a b:GExpr)
theorem a8h:prE (.mk 1 t n ks es)=rpQ t:=by rw[a6N];rfl
theorem c6F:prE (.mk 2 t n ks es)=Lib.itoa n:=by rw[a6N];rfl
theorem f0q:prE (.mk 3 t n ks es)=t:=by rw[a6N];rfl
theorem c6G:prE (.mk 4 t n ks es)=[91]++Lib.join (es.map prE) [44,32] ++ [93]:=by rw[a6N];rfl
theorem f0r:prE (.mk 5 t n ks es)=[102,105,108,101,115,40]++Lib.join (es.map prE) [44,32] ++ [41]:=by rw[a6N];rfl
theorem c6H:prE (.mk 6 t n ks es)=[99,104,111,111,115,101,32,123]++Lib.join (List.zipWith (fun q p=>rpQ q ++ [58,32]++p) ks (es.map prE)) [44,32] ++ [125]:=by rw[a6N];rfl
theorem f0s:prE (.mk 7 t n ks [a,b])=c9q (brk 7 a.kind 0) (prE a) ++ [32,43,32]++c9q (brk 7 b.kind 1) (prE b):=by rw[a6N];rfl
theorem f0t:prE (.mk 8 t n ks [a,b])=c9q (brk 8 a.kind 0) (prE a) ++ [32,61,61,32]++c9q (brk 8 b.kind 1) (prE b):=by rw[a6N];rfl
theorem c6U:tkE (.mk 1 t n ks es)=[(2,t,0)]:=by rw[a68];rfl
theorem e3E:tkE (.mk 2 t n ks es)=[(3,[],n)]:=by rw[a68];rfl
theorem f0P:tkE (.mk 3 t n ks es)=[nmT t]:=by rw[a68];rfl
theorem e3F:tkE (.mk 4 t n ks es)=[S5 91]++a1o (es.map tkE) ++ [S5 93]:=by rw[a68];rfl
theorem f0Q:tkE (.mk 5 t n ks es)=[nmT [102,105,108,101,115],S5 40]++a1o (es.map tkE) ++ [S5 41]:=by rw[a68];rfl
theorem e3G:tkE (.mk 6 t n ks es)=[nmT [99,104,111,111,115,101],S5 123]++a1o (List.zipWith (fun q p=>[(2,q,0),S5 58]++p) ks (es.map tkE)) ++ [S5 125]:=by rw[a68];rfl
theorem f0R:tkE (.mk 7 t n ks [a,b])=c9r (brk 7 a.kind 0) (tkE a) ++ [S5 43]++c9r (brk 7 b.kind 1) (tkE b):=by rw[a68];rfl
theorem f0S:tkE (.mk 8 t n ks [a,b])=c9r (brk 8 a.kind 0) (tkE a) ++ [(4,[61,61],0)]++c9r (brk 8 b.kind 1) (tkE b):=by rw[a68];rfl
end
theorem a8L(x y:d3)(r:List d3)(sep:d3):Lib.join (x :: y :: r) sep=x++(sep++Lib.join (y :: r) sep):=by
 rw[Lib.join_cons,Lib.join_cons];simp[Lib.joinTail]
theorem c9n{q:d3}(h:B7 q=true):c62 q=true:=by
 cases q with
 |nil=>cases h
 |cons c q=>
  simp only[B7,Bool.and_eq_true]at h;obtain⟨h1,h2,h3,_⟩:=h;have h3':(c :: q).all O4=true:=List.all_eq_true.2 fun x hx=>by
   have:=List.all_eq_true.1 h3 x hx;unfold nmB a2O a8F at this;unfold O4;exact this
  unfold c62;exact Bool.and_eq_true_iff.2 ⟨Bool.and_eq_true_iff.2 ⟨h2,h3'⟩,h1⟩
theorem a2c{q:d3}(h:B7 q=true):PcA q [nmT q]:=a2Y (c9n h)
theorem b8Z{s:d3}{ks:List Key}(b:Bool)(h:PcA s ks):PcA (c9q b s) (c9r b ks):=by
 cases b with
 |false=>exact h
 |true=>exact(PcA.app1 ((I7 (by decide:a2y 40=true)).app' h) (I7 (by decide:a2y 41=true)) rfl).lx
theorem d3T:PcB [44,32] [S5 44]:=(I7 (by decide:a2y 44=true)).app a1p
theorem a5e{α:Type}(f:α->d3)(g:α->List Key):∀(l:List α),(∀x∈l,PcA (f x) (g x))->PcA (Lib.join (l.map f) [44,32]) (a1o (l.map g))
 |[],_=>PcB.nil.lx
 |[x],h=>by
  rw[List.map_cons,List.map_nil,Lib.join_one];exact h x (by simp)
 |x :: y :: r,h=>by
  have ih:=a5e f g (y :: r) fun z hz=>h z (List.mem_cons_of_mem _ hz)
  rw[List.map_cons,List.map_cons]at ih ⊢;rw[a8L];exact(h x (by simp)).app (d3T.app' ih) rfl
theorem a5Y{α β γ δ:Type}(f:α->β->γ)(g:δ->β):∀(ks:List α) (es:List δ),List.zipWith f ks (es.map g)=(ks.zip es).map fun z=>f z.1 (g z.2)
 |[],_=>rfl
 |_ :: _,[]=>rfl
 |k :: ks,e :: es=>by rw[List.map_cons,List.zipWith_cons_cons,a5Y f g ks es];rfl
theorem a5d:∀(k x:Nat) (e:GExpr),WE k x e->PcA (prE e) (tkE e)
 |0,_,_,h=>h.elim
 |k+1,x,e,⟨_,h⟩=>by
  have ih:=fun x e h=>a5d k x e h
  rcases h with⟨t,h1,rfl⟩|⟨n,h1,rfl⟩|⟨t,h1,rfl⟩|⟨es,rfl,h1⟩|⟨a,b,rfl,h1,h2⟩|⟨ks,es,h1,h2,h3,rfl,h4⟩|⟨a,b,rfl,h1,h2⟩|⟨a,b,rfl,h1,h2⟩
  ·rw[a8h,c6U];exact(b80 h1).lx
  ·rw[c6F,e3E];have:Lib.itoa (n:Int)=Lib.decDigits n:=by unfold Lib.itoa;rw[if_neg (by omega)];simp
   rw[this];exact e5X h1
  ·rw[f0q,f0P];exact a2c h1
  ·rw[c6G,e3F];exact(PcA.app1 ((I7 (by decide:a2y 91=true)).app' (a5e prE tkE es fun c hc=>ih _ c (h1 c hc))) (I7 (by decide:a2y 93=true)) rfl).lx
  ·rw[f0r,f0Q];have hj:=a5e prE tkE [a,b] fun c hc=>by
    simp only[List.mem_cons,List.mem_nil_iff,or_false]at hc;rcases hc with rfl|rfl
    ·exact ih _ _ h1
    ·exact ih _ _ h2
   have hw:PcB ([102,105,108,101,115] ++ [40]) ([nmT [102,105,108,101,115]] ++ [S5 40]):=PcA.app1 (a2Y (by decide)) (I7 (by decide:a2y 40=true)) rfl;exact(PcA.app1 (hw.app' hj) (I7 (by decide:a2y 41=true)) rfl).lx
  ·rw[c6H,e3G,a5Y,a5Y];have hj:=a5e (fun z:d3×GExpr=>rpQ z.1 ++ [58,32]++prE z.2) (fun z=>[(2,z.1,0),S5 58]++tkE z.2) (ks.zip es) fun z hz=>by
    have m:=List.of_mem_zip hz;have hq:PcB (rpQ z.1 ++ [58,32]) ([(2,z.1,0)] ++ [S5 58]):=(b80 (h3 _ m.1)).app ((I7 (by decide:a2y 58=true)).app a1p);exact hq.app' (ih _ _ (h4 _ m.2))
   have hw:PcB ([99,104,111,111,115,101] ++ [32,123]) ([nmT [99,104,111,111,115,101]] ++ [S5 123]):=PcA.app1 (a2Y (by decide)) (a1p.app (I7 (by decide:a2y 123=true))) rfl;exact(PcA.app1 (hw.app' hj) (I7 (by decide:a2y 125=true)) rfl).lx
  ·rw[f0s,f0R];have hm:PcB [32,43,32] [S5 43]:=a1p.app ((I7 (by decide:a2y 43=true)).app a1p);exact(PcA.app1 (b8Z _ (ih _ _ h1)) hm rfl).app' (b8Z _ (ih _ _ h2))
  ·rw[f0t,f0S];have hm:PcB [32,61,61,32] [(4,[61,61],0)]:=a1p.app (e0T.app a1p);exact(PcA.app1 (b8Z _ (ih _ _ h1)) hm rfl).app' (b8Z _ (ih _ _ h2))
def lnS(d:Nat)(s:d3):d3:=List.replicate (2*d) 32++s ++ [10]
def a74(f:GExpr->d3)(q:d3×GExpr):d3:=q.1 ++ [32,61,32]++f q.2
mutual
def prS:GStmt->Nat->d3 | .mk k q t ps ag E b l a,d=>if k=1 then lnS d (q ++ [32,61,32]++prE E ++ [59])else if k=2 then lnS d (q ++ [40]++Lib.join (ag.map (a74 prE)) [44,32] ++ [41,59])else if k=3 then lnS d ([109,97,99,114,111,32]++q ++ [40]++Lib.join ps [44,32] ++ [41] ++ [32,123])++(a1h b (d+1)++lnS d [125])else if k=4 then lnS d ([102,111,114,32]++q ++ [32,105,110,32]++prE E ++ [32,123])++(a1h b (d+1)++lnS d [125])else if k=5 then lnS d ([105,102,32]++prE E ++ [32,123])++(a1h b (d+1)++((if l.isEmpty then []else lnS d ([125,32,101,108,115,101] ++ [32,123])++a1h l (d+1))++lnS d [125]))else if k=6 then lnS d ([117,115,101,32]++rpQ t ++ [59])else []
def a1h:List GStmt->Nat->d3 | [],_=>[]|s :: l,d=>prS s d++a1h l d
end
def d20(f:GExpr->List Key)(q:d3×GExpr):List Key:=[nmT q.1,S5 61]++f q.2
mutual
def tkS:GStmt->List Key | .mk k q t ps ag E b l a=>if k=1 then [nmT q,S5 61]++tkE E ++ [S5 59]else if k=2 then [nmT q,S5 40]++a1o (ag.map (d20 tkE)) ++ [S5 41,S5 59]else if k=3 then [nmT [109,97,99,114,111],nmT q,S5 40]++a1o (ps.map fun p=>[nmT p]) ++ [S5 41,S5 123]++(a4q b ++ [S5 125])else if k=4 then [nmT [102,111,114],nmT q,nmT [105,110]]++tkE E ++ [S5 123]++(a4q b ++ [S5 125])else if k=5 then [nmT [105,102]]++tkE E ++ [S5 123]++(a4q b++((if l.isEmpty then []else [S5 125,nmT [101,108,115,101],S5 123]++a4q l) ++ [S5 125]))else if k=6 then [nmT [117,115,101],(2,t,0),S5 59]else []
def a4q:List GStmt->List Key | []=>[]|s :: l=>tkS s++a4q l
end
theorem a9A(d:Nat):a1h [] d=[]:=by rw[a1h]
theorem b6G(s:GStmt)(l:List GStmt)(d:Nat):a1h (s :: l) d=prS s d++a1h l d:=by rw[a1h]
theorem b32:a4q []=[]:=by rw[a4q]
theorem b0D(s:GStmt)(l:List GStmt):a4q (s :: l)=tkS s++a4q l:=by rw[a4q]
def WS:Nat->Nat->GStmt->Prop|0,_,_=>False|k+1,x,s=>x<30/\((∃q E a m,B7 q=true/\WE m (x+1) E/\s = .mk 1 q [] [] [] E [] [] a)\/(∃q ag a m,B7 q=true/\(∀c∈ag,B7 c.1=true/\WE m (x+1) c.2)/\s = .mk 2 q [] [] ag zE [] [] a)\/(∃q ps b a,B7 q=true/\(∀c∈ps,B7 c=true)/\(∀c∈b,WS k (x+1) c)/\s = .mk 3 q [] ps [] zE b [] a)\/(∃q E b a m,B7 q=true/\WE m (x+1) E/\(∀c∈b,WS k (x+1) c)/\s = .mk 4 q [] [] [] E b [] a)\/(∃E b l a m,WE m (x+1) E/\(∀c∈b,WS k (x+1) c)/\(∀c∈l,WS k (x+1) c)/\s = .mk 5 [] [] [] [] E b l a)\/(∃(t:d3) (a:Int),t.all y0=true/\s = .mk 6 [] t [] [] zE [] [] a))
section
variable(q t:d3)(ps:List d3)(ag:List (d3×GExpr))(E:GExpr)(b l:List GStmt)(a:Int)(d:Nat)
theorem f0u:prS (.mk 1 q t ps ag E b l a) d=lnS d (q ++ [32,61,32]++prE E ++ [59]):=by rw[prS];rfl
theorem e3v:prS (.mk 2 q t ps ag E b l a) d=lnS d (q ++ [40]++Lib.join (ag.map (a74 prE)) [44,32] ++ [41,59]):=by rw[prS];rfl
theorem f0v:prS (.mk 3 q t ps ag E b l a) d=lnS d ([109,97,99,114,111,32]++q ++ [40]++Lib.join ps [44,32] ++ [41] ++ [32,123])++(a1h b (d+1)++lnS d [125]):=by rw[prS];rfl
theorem f0w:prS (.mk 4 q t ps ag E b l a) d=lnS d ([102,111,114,32]++q ++ [32,105,110,32]++prE E ++ [32,123])++(a1h b (d+1)++lnS d [125]):=by rw[prS];rfl
theorem f0x:prS (.mk 5 q t ps ag E b l a) d=lnS d ([105,102,32]++prE E ++ [32,123])++(a1h b (d+1)++((if l.isEmpty then []else lnS d ([125,32,101,108,115,101] ++ [32,123])++a1h l (d+1))++lnS d [125])):=by rw[prS];rfl
theorem f0y:prS (.mk 6 q t ps ag E b l a) d=lnS d ([117,115,101,32]++rpQ t ++ [59]):=by rw[prS];rfl
theorem f0T:tkS (.mk 1 q t ps ag E b l a)=[nmT q,S5 61]++tkE E ++ [S5 59]:=by rw[tkS];rfl
theorem c6V:tkS (.mk 2 q t ps ag E b l a)=[nmT q,S5 40]++a1o (ag.map (d20 tkE)) ++ [S5 41,S5 59]:=by rw[tkS];rfl
theorem f0U:tkS (.mk 3 q t ps ag E b l a)=[nmT [109,97,99,114,111],nmT q,S5 40]++a1o (ps.map fun p=>[nmT p]) ++ [S5 41,S5 123]++(a4q b ++ [S5 125]):=by rw[tkS];rfl
theorem f0V:tkS (.mk 4 q t ps ag E b l a)=[nmT [102,111,114],nmT q,nmT [105,110]]++tkE E ++ [S5 123]++(a4q b ++ [S5 125]):=by rw[tkS];rfl
theorem f0W:tkS (.mk 5 q t ps ag E b l a)=[nmT [105,102]]++tkE E ++ [S5 123]++(a4q b++((if l.isEmpty then []else [S5 125,nmT [101,108,115,101],S5 123]++a4q l) ++ [S5 125])):=by rw[tkS];rfl
theorem f0X:tkS (.mk 6 q t ps ag E b l a)=[nmT [117,115,101],(2,t,0),S5 59]:=by rw[tkS];rfl
end
theorem b1H{s:d3}{ks:List Key}(d:Nat)(h:PcA s ks):PcB (lnS d s) ks:=by
 have h1:PcA (List.replicate (2*d) 32++s) ([]++ks):=(d3U _).app' h;have h2:=PcA.app1 h1 f0p rfl;rw[List.nil_append,List.append_nil]at h2;exact h2
theorem b2d:PcB [32,123] [S5 123]:=a1p.app (I7 (by decide:a2y 123=true))
theorem b3q{k x d:Nat}(ih:∀c,WS k x c->PcB (prS c d) (tkS c)):∀l:List GStmt,(∀c∈l,WS k x c)->PcB (a1h l d) (a4q l)
 |[],_=>by rw[a9A,b32];exact PcB.nil
 |s :: l,h=>by
  rw[b6G,b0D];exact(ih s (h s (by simp))).app (b3q ih l fun c hc=>h c (List.mem_cons_of_mem _ hc))
theorem c6B:∀(k x:Nat) (s:GStmt),WS k x s->∀d,PcB (prS s d) (tkS s)
 |0,_,_,h,_=>h.elim
 |k+1,x,s,⟨_,h⟩,d=>by
  have ihs:=fun(l:List GStmt) (hl:∀c∈l,WS k (x+1) c)=>b3q (d:=d+1) (fun c hc=>c6B k (x+1) c hc (d+1)) l hl
  have hcl:PcB (lnS d [125]) [S5 125]:=b1H d (I7 (by decide:a2y 125=true)).lx;have heq:PcB [32,61,32] [S5 61]:=by
   have h1:PcB ([61] ++ [32]) ([S5 61] ++ []):=PcA.app1 e3u a1p rfl;exact a1p.app h1
  rcases h with⟨q,E,a,m,h1,h2,rfl⟩|⟨q,ag,a,m,h1,h2,rfl⟩|⟨q,ps,b,a,h1,h2,h3,rfl⟩|⟨q,E,b,a,m,h1,h2,h3,rfl⟩|⟨E,b,l,a,m,h1,h2,h3,rfl⟩|⟨t,a,h1,rfl⟩
  ·rw[f0u,f0T];exact b1H d (PcA.app1 ((PcA.app1 (a2c h1) heq rfl).app' (a5d _ _ _ h2)) (I7 (by decide:a2y 59=true)) rfl).lx
  ·rw[e3v,c6V];have hj:=a5e (a74 prE) (d20 tkE) ag fun c hc=>(PcA.app1 (a2c (h2 c hc).1) heq rfl).app' (a5d _ _ _ (h2 c hc).2)
   have h3:PcB [41,59] [S5 41,S5 59]:=(I7 (by decide:a2y 41=true)).app (I7 (by decide:a2y 59=true));exact b1H d (PcA.app1 ((PcA.app1 (a2c h1) (I7 (by decide:a2y 40=true)) rfl).app' hj) h3 rfl).lx
  ·rw[f0v,f0U];have hj:=a5e (fun p:d3=>p) (fun p=>[nmT p]) ps fun c hc=>a2c (h2 c hc)
   rw[List.map_id']at hj;have hm:PcB ([109,97,99,114,111] ++ [32]) ([nmT [109,97,99,114,111]] ++ []):=PcA.app1 (a2Y (by decide)) a1p rfl;have h4:=(PcA.app1 (PcA.app1 ((PcA.app1 (hm.app' (a2c h1)) (I7 (by decide:a2y 40=true)) rfl).app' hj) (I7 (by decide:a2y 41=true)) rfl).lx b2d rfl).lx;have h5:=(b1H d h4).app ((ihs b h3).app hcl);simpa using h5
  ·rw[f0w,f0V];have hm:PcB ([102,111,114] ++ [32]) ([nmT [102,111,114]] ++ []):=PcA.app1 (a2Y (by decide)) a1p rfl;have hi:PcB ([32]++([105,110] ++ [32])) ([]++([nmT [105,110]] ++ [])):=a1p.app (PcA.app1 (a2Y (by decide)) a1p rfl);have h4:=(PcA.app1 ((PcA.app1 (hm.app' (a2c h1)) hi rfl).app' (a5d _ _ _ h2)) b2d rfl).lx;have h5:=(b1H d h4).app ((ihs b h3).app hcl);simpa using h5
  ·rw[f0x,f0W];have hm:PcB ([105,102] ++ [32]) ([nmT [105,102]] ++ []):=PcA.app1 (a2Y (by decide)) a1p rfl;have h4:=(PcA.app1 (hm.app' (a5d _ _ _ h1)) b2d rfl).lx;have he:PcB (if l.isEmpty then []else lnS d ([125,32,101,108,115,101] ++ [32,123])++a1h l (d+1)) (if l.isEmpty then []else [S5 125,nmT [101,108,115,101],S5 123]++a4q l):=by
    cases l with
    |nil=>exact PcB.nil
    |cons c l=>
     have h6:PcB ([125]++([32] ++ [])) ([S5 125]++([] ++ [])):=(I7 (by decide:a2y 125=true)).app (a1p.app PcB.nil);have h7:=(PcA.app1 (h6.app' (a2Y (q:=[101,108,115,101]) (by decide))) b2d rfl).lx;exact(b1H d h7).app (ihs _ h3)
   have h5:=(b1H d h4).app ((ihs b h2).app (he.app hcl));simpa using h5
  ·rw[f0y,f0X];have hm:PcB ([117,115,101] ++ [32]) ([nmT [117,115,101]] ++ []):=PcA.app1 (a2Y (by decide)) a1p rfl;have h4:=(hm.app (b80 h1)).app (I7 (by decide:a2y 59=true));exact b1H d h4.lx
theorem e0U{k:Nat}{l:List GStmt}(h:∀c∈l,WS k 0 c):LK (a1h l 0) (a4q l):=by
 have:=b3q (fun c hc=>c6B k 0 c hc 0) l h [] [] (.nil rfl);simpa using this
end
section
variable{N:Nat}
theorem b6p{α:Type}{q:Nat->α->Prop}{body:Nat->α->Int->Int}(h:∀i x r,body i x r=0↔q i x/\r=0):∀(xs:List α) (j:Nat),N0 body 0 xs j=0 ↔ ∀i (hi:i<xs.length),q (j+i) xs[i]
 |[],_=>by simp[N0]
 |x :: xs,j=>by
  show body j x (N0 body 0 xs (j+1))=0↔_;rw[h,b6p h xs (j+1)];constructor
  ·rintro⟨h0,h1⟩ i hi;cases i with
   |zero=>exact h0
   |succ i=>have:=h1 i (by simpa using hi);simpa [Nat.add_assoc,Nat.add_comm 1]using this
  ·intro h';refine⟨h' 0 (by simp),fun i hi=>?_⟩;have:=h' (i+1) (by simpa using hi);simpa [Nat.add_assoc,Nat.add_comm 1]using this
def a97:GValue:= .mk 0 [] 0 [] []
theorem GValue.eta(v:GValue):GValue.mk v.kind v.text v.number v.list v.cases=v:=by cases v;rfl
abbrev T8:Type:=d3×GValue
abbrev c4x:Ty:= .pr .str (.rc .value)
def a2z(s:d3):Int:=if decide ((s.length:Int)>1000)then 2 else if s.all y0 then 0 else 3
theorem b8K(hN:z7<=N)(s:d3)(hs:s.length<=maxLen):a0J N s=some (a2z s):=by
 unfold a0J a2z;rw[Q9 hN s hs,c8];cases decide ((s.length:Int)>1000)<;>cases s.all y0<;>simp
theorem b8U{α:Type}(p:α->Bool)(xs:List α):decide (a9u p xs>=(0:Int))=xs.any p:=a0p p xs
theorem b5K(hN:z7<=N)(l:List d3)(hl:l.length<=maxLen):A5 N l ()=some (l.any fun s=>decide ((s.length:Int)>1000)):=by
 unfold A5;have:F7 N l ()=some (a9u (fun s=>decide ((s.length:Int)>1000)) l):=by
  unfold F7;refine A8 (fun _ _=>rfl) l hl (fun self i h r hr=>?_) (fun self=>?_) hN
  ·simp only[c8n,m7 l h,u5 hl h,hr,c8,a0Q];rw[I1 h,d9,B9]
  ·simp only[c8n,P6,g9]
 rw[this,c8,b8U]
theorem b8A(hN:z7<=N)(l:List d3)(hl:Fit (.sl .str) l):A6 N l ()=some (l.any fun s=>!s.all y0):=by
 unfold A6;have:F8 N l ()=some (a9u (fun s=>!s.all y0) l):=by
  unfold F8;refine A8 (fun _ _=>rfl) l hl.1 (fun self i h r hr=>?_) (fun self=>?_) hN
  ·simp only[c8u,m7 l h,u5 hl.1 h,hr,c8,a0R,Q9 hN _ (hl.2 _ (List.getElem_mem h))];rw[I1 h,d9,B9]
  ·simp only[c8u,P6,g9]
 rw[this,c8,b8U]
def a6i(cc:Int)(v:GValue):Int:=if decide ((v.text.length:Int)>1000)then 2 else if decide ((v.list.length:Int)>1000)then 2 else if v.list.any (fun s=>decide ((s.length:Int)>1000))then 2 else if decide ((v.cases.length:Int)>50)then 2 else if !v.text.all y0 then 3 else if v.list.any (fun s=>!s.all y0)then 3 else if decide (v.number<0)then 1 else if decide (v.number>999999999)then 1 else if v.kind==4 then cc else 0
def a6b(v:GValue):Bool:=(!(v.text==[])&&v.kind !=1)||(v.number !=0&&v.kind !=2)||(decide ((v.list.length:Int)>0)&&v.kind !=3)||(decide ((v.cases.length:Int)>0)&&v.kind !=4)
def a0A(cc:Int)(v:GValue):Int:=if decide (v.kind<1)then 4 else if decide (v.kind>4)then 4 else if a6b v then 3 else a6i cc v
theorem b39{v:GValue}(h:Fit (.rc .value) v):(Lit.int .i64 v.kind).wf=true/\v.text.length<=maxLen/\(Lit.int .i64 v.number).wf=true/\Fit (.sl .str) v.list/\Fit (.sl c4x) v.cases:=FitR.elim h
theorem a8e(hN:z7<=N){r:List T8->Option Int}{cc:Int}(v:GValue)(hv:Fit (.rc .value) v)(hr:v.kind=4->r v.cases=some cc):D1 N r v=some (a0A cc v):=by
 obtain⟨_,ht,_,hl,hc⟩:=b39 hv;have hT:(br (decide ((v.text.length:Int)>(1000:Int))) (some (2:Int)) (br (decide ((v.list.length:Int)>(1000:Int))) (some (2:Int)) (k8 (A5 N v.list ()) fun t61=>br (t61) (some (2:Int)) (br (decide ((v.cases.length:Int)>(50:Int))) (some (2:Int)) (k8 (J1 N v.text) fun t72=>br (!t72) (some (3:Int)) (k8 (A6 N v.list ()) fun t77=>br (t77) (some (3:Int)) (br (decide (v.number<(0:Int))) (some (1:Int)) (br (decide (v.number>(999999999:Int))) (some (1:Int)) (br (v.kind==(4:Int)) (k8 (r v.cases) fun t94=>some t94) (some (0:Int)))))))))))= some (a6i cc v):=by
  simp only[b5K hN _ hl.1,b8A hN _ hl,Q9 hN _ ht,c8];have hk:(br (v.kind==(4:Int)) (k8 (r v.cases) fun t94=>some t94) (some (0:Int)))=some (if v.kind==4 then cc else 0):=by
   by_cases h4:v.kind=4
   ·rw[hr h4];simp[h4]
   ·rw[show(v.kind==(4:Int))=false from beq_false_of_ne h4];simp
  rw[hk];simp only[B9];rfl
 unfold D1 N4 C2;simp only[hT];unfold a0A a6b;generalize a6i cc v=t;generalize decide (v.kind<1)=b1;generalize decide (v.kind>4)=b2;generalize (v.text==([]:d3))=b3;generalize (v.kind !=(1:Int))=b4;generalize (v.number !=(0:Int))=b5;generalize (v.kind !=(2:Int))=b6;generalize decide ((v.list.length:Int)>0)=b7;generalize (v.kind !=(3:Int))=b8;generalize decide ((v.cases.length:Int)>0)=b9;generalize (v.kind !=(4:Int))=b10;cases b1
 ·cases b2
  ·cases b3<;>cases b5<;>cases b7<;>cases b9<;>simp only[d9,g9,Bool.not_true,Bool.not_false]<;>cases b4<;>cases b6<;>cases b8<;>cases b10<;>simp
  ·simp
 ·simp
def b1C(l:List T8)(i:Nat)(c:T8)(r:Int):Int:=
 if a2z c.1≠0 then a2z c.1 else if(l.take i).any (fun d=>d.1==c.1)then 7 else if c.2.kind==4 then 4 else if a0A 0 c.2≠0 then a0A 0 c.2 else
  if c.2.kind !=(match l[0]? with|some d=>d.2.kind|none=>0)then 6 else r
def a4k(l:List T8):Int:=if l.length=0 then 9 else N0 (b1C l) 0 l 0
def a0B(v:GValue):Int:=a0A (a4k v.cases) v
theorem b2I(hN:z7<=N)(xs:List T8)(hx:xs.length<=maxLen)(q:T8):L3 N xs (q,())=some (a9u (fun x=>x.1==q.1) xs):=by
 unfold L3;refine A8 (fun _ _=>rfl) xs hx (fun self i h r hr=>?_) (fun self=>?_) hN
 ·simp only[c0g,m7 xs h,u5 hx h,hr,c8,a0S];rw[I1 h,d9,B9]
 ·simp only[c0g,P6,g9]
theorem b5P(hN:z7<=N)(r:List T8->Option Int)(l:List T8)(hl:Fit (.sl c4x) l):U7 N r l=some (a4k l):=by
 unfold U7 a4k;by_cases h0:l.length=0
 ·simp[h0]
 ·rw[if_neg h0,show((l.length:Int)==(0:Int))=false from beq_false_of_ne (by omega),g9];refine A8 (fun _ _=>rfl) l hl.1 (fun self i h r' hr=>?_) (fun self=>?_) hN
  ·have hx:=hl.2 _ (List.getElem_mem h);have ht:(l.take i).length<=maxLen:=by have:=hl.1;rw[List.length_take];omega
   have h00:0<l.length:=by omega
   simp only[c0i,m7 l h,u5 hl.1 h,hr,c8,b8K hN _ hx.1,a6V l (Nat.le_of_lt h),P3,b2I hN _ ht,a0p,GValue.eta,a4D,List.getElem?_eq_getElem h00];rw[I1 h,d9];unfold b1C;rw[List.getElem?_eq_getElem h00];by_cases h4:l[i].2.kind=4
   ·simp only[h4,beq_self_eq_true,d9,B9,c0C,if_true];by_cases h1:a2z l[i].1=0<;>simp[h1]
   ·rw[a8e hN (cc:=0) _ hx.2 (fun h=>absurd h h4),c8];have e4:(l[i].2.kind==(4:Int))=false:=beq_false_of_ne h4;simp only[e4,g9,B9,c0C,Bool.false_eq_true,if_false];by_cases h1:a2z l[i].1=0<;>by_cases h2:a0A 0 l[i].2=0<;>simp[h1,h2]
    all_goals (try (split<;>(try split)<;>simp_all))
  ·simp only[c0i,P6,g9]
theorem a6v(hN:z7<=N)(v:GValue)(hv:Fit (.rc .value) v):D1 N (C4 N N) v=some (a0B v):=by
 obtain⟨_,_,_,_,hc⟩:=b39 hv;refine a8e hN v hv fun _=>?_
 obtain⟨d,rfl⟩:∃d,N=d+1:=⟨N-1,by unfold z7 at hN;omega⟩;exact b5P hN _ _ hc
structure PlainV(v:GValue):Prop where
 kind:v.kind≠4
 cases:v.cases=[]
 list:v.list.length<=1000
theorem b3w{v:GValue}{cc:Int}(h:a0A cc v=0)(h4:v.kind≠4):PlainV v:=by
 unfold a0A at h;split at h
 ·cases h
 ·split at h
  ·cases h
  ·split at h
   ·cases h
   ·rename_i hf;unfold a6b at hf;unfold a6i at h;refine⟨h4,?_,?_⟩
    ·simp only[Bool.or_eq_true,Bool.and_eq_true,not_or,not_and,bne_iff_ne,ne_eq]at hf;have:=hf.2;have h5:¬((v.cases.length:Int)>0):=fun h6=>this (decide_eq_true h6) h4
     exact List.eq_nil_of_length_eq_zero (by omega)
    ·split at h
     ·cases h
     ·split at h
      ·cases h
      ·rename_i h6;have:¬((v.list.length:Int)>1000):=fun h7=>h6 (decide_eq_true h7)
       omega
structure CasesOk(l:List T8):Prop where
 some:l ≠ []
 plain:∀c∈l,PlainV c.2
 right:∀c∈l,a0A 0 c.2=0
 once:∀i (hi:i<l.length) (j:Nat) (hj:j<i),l[j].1≠l[i].1
theorem d3m{l:List T8}(h:a4k l=0):CasesOk l:=by
 unfold a4k at h;split at h
 ·cases h
 ·rename_i h0;have:=(b6p (q:=fun i c=>a2z c.1=0/\(l.take i).any (fun d=>d.1==c.1)=false/\c.2.kind≠4/\a0A 0 c.2=0/\c.2.kind=(match l[0]? with|some d=>d.2.kind|none=>0)) (body:=b1C l) (fun i c r=>by
   unfold b1C;by_cases h1:a2z c.1=0<;>by_cases h2:(l.take i).any (fun d=>d.1==c.1)=true<;>by_cases h3:c.2.kind=4<;>by_cases h4:a0A 0 c.2=0<;>simp[h1,h2,h3,h4]
   all_goals (first|(split<;>(first|(split<;>simp_all)|simp_all))|skip)) l 0).1 h
  refine⟨fun e=>h0 (by rw[e];rfl),fun c hc=>?_,fun c hc=>?_,fun i hi j hj he=>?_⟩
  ·obtain⟨i,hi,rfl⟩:=List.mem_iff_getElem.1 hc;have:=this i hi;exact b3w this.2.2.2.1 this.2.2.1
  ·obtain⟨i,hi,rfl⟩:=List.mem_iff_getElem.1 hc;exact(this i hi).2.2.2.1
  ·have:=(this i hi).2.1;rw[Nat.zero_add,List.any_eq_false]at this;have hm:l[j]∈l.take i:=List.mem_take_iff_getElem.2 ⟨j,by omega,rfl⟩;have:=this _ hm;simp[he]at this
theorem d4S{v:GValue}(h:a0B v=0):(v.kind≠4/\PlainV v)\/(v.kind=4/\CasesOk v.cases/\v.cases.length<=50):=by
 by_cases h4:v.kind=4
 ·refine .inr ⟨h4,?_⟩;unfold a0B a0A at h;split at h
  ·cases h
  ·split at h
   ·cases h
   ·split at h
    ·cases h
    ·unfold a6i at h;split at h
     ·cases h
     ·split at h
      ·cases h
      ·split at h
       ·cases h
       ·split at h
        ·cases h
        ·rename_i h5;have h5':¬((v.cases.length:Int)>50):=fun h7=>h5 (decide_eq_true h7)
         split at h
         ·cases h
         ·split at h
          ·cases h
          ·split at h
           ·cases h
           ·split at h
            ·cases h
            ·rw[h4]at h;exact⟨d3m h,by omega⟩
 ·exact .inl ⟨h4,b3w h h4⟩
theorem e1g{v:GValue}{cc:Int}(h:a0A cc v=0):v.text.length<=1000:=by
 apply Classical.byContradiction;intro hn;have e:decide ((v.text.length:Int)>1000)=true:=decide_eq_true (by omega);unfold a0A at h;by_cases c1:decide (v.kind<1)=true
 ·rw[if_pos c1]at h;cases h
 ·rw[if_neg c1]at h;by_cases c2:decide (v.kind>4)=true
  ·rw[if_pos c2]at h;cases h
  ·rw[if_neg c2]at h;by_cases c3:a6b v=true
   ·rw[if_pos c3]at h;cases h
   ·rw[if_neg c3]at h;unfold a6i at h;rw[if_pos e]at h;cases h
structure Small(v:GValue):Prop where
 text:v.text.length<=1000
 list:v.list.length<=1000
theorem c1P{v:GValue}{cc:Int}(h:a0A cc v=0)(h4:v.kind≠4):Small v:=⟨e1g h,(b3w h h4).list⟩
theorem b5Q(hN:z7<=N)(s:d3)(hs:s.length<=maxLen):a1J N s=some (a2z s):=by
 unfold a1J a2z;rw[U1 hN s hs,c8];cases decide ((s.length:Int)>1000)<;>cases s.all y0<;>simp
theorem c08(v:GValue):a24 N v=some (!a6b v):=by
 unfold a24 Z1 a6b;have h1:((v.list.length:Int)==(0:Int)) = !decide ((v.list.length:Int)>0):=by
  by_cases h:(v.list.length:Int)=0
  ·simp[h]
  ·rw[beq_false_of_ne h,decide_eq_true (by omega)];rfl
 have h2:((v.cases.length:Int)==(0:Int)) = !decide ((v.cases.length:Int)>0):=by
  by_cases h:(v.cases.length:Int)=0
  ·simp[h]
  ·rw[beq_false_of_ne h,decide_eq_true (by omega)];rfl
 rw[h1,h2];simp only[bne];generalize (v.text==([]:d3))=b1;generalize (v.number==(0:Int))=b2;generalize decide ((v.list.length:Int)>0)=b3;generalize decide ((v.cases.length:Int)>0)=b4;generalize (v.kind==(1:Int))=c1;generalize (v.kind==(2:Int))=c2;generalize (v.kind==(3:Int))=c3;generalize (v.kind==(4:Int))=c4;cases b1<;>cases b2<;>cases b3<;>cases b4<;>cases c1<;>cases c2<;>cases c3<;>cases c4<;>simp
theorem f0o(hN:z7<=N)(r:List T8->Option Int)(l:List d3)(hl:l.length<=maxLen)(k:Int):b9O N r l (l.length:Int) (some k) N 0=some (if(l.any fun s=>decide ((s.length:Int)>1000))=true then 2 else k):=by
 have e:(if(l.any fun s=>decide ((s.length:Int)>1000))=true then(2:Int)else k)=N0 (fun _ s r=>if decide ((s.length:Int)>1000)=true then 2 else r) k l 0:=by
  have:∀(l:List d3) (j:Nat),(if(l.any fun s=>decide ((s.length:Int)>1000))=true then(2:Int)else k)=N0 (fun _ s r=>if decide ((s.length:Int)>1000)=true then 2 else r) k l j:=by
   intro l;induction l with
   |nil=>intro j;simp[N0]
   |cons x l ih=>
    intro j;show _=(if decide ((x.length:Int)>1000)=true then 2 else N0 _ k l (j+1));rw[<-ih (j+1),List.any_cons];cases decide ((x.length:Int)>1000)<;>simp
  exact this l 0
 rw[e];refine A8 (fun _ _=>rfl) l hl (fun self i h r' hr=>?_) (fun self=>?_) hN
 ·simp only[b2q,m7 l h,u5 hl h,hr,c8];rw[I1 h,d9,B9]
 ·simp only[b2q,P6,g9]
theorem f6g(hN:z7<=N)(r:List T8->Option Int)(l:List d3)(hl:Fit (.sl .str) l)(k:Int):b9P N r l (l.length:Int) (some k) N 0=some (if(l.any fun s=>!s.all y0)=true then 3 else k):=by
 have e:(if(l.any fun s=>!s.all y0)=true then(3:Int)else k)=N0 (fun _ s r=>if(!s.all y0)=true then 3 else r) k l 0:=by
  have:∀(l:List d3) (j:Nat),(if(l.any fun s=>!s.all y0)=true then(3:Int)else k)=N0 (fun _ s r=>if(!s.all y0)=true then 3 else r) k l j:=by
   intro l;induction l with
   |nil=>intro j;simp[N0]
   |cons x l ih=>
    intro j;show _=(if(!x.all y0)=true then 3 else N0 _ k l (j+1));rw[<-ih (j+1),List.any_cons];cases x.all y0<;>simp
  exact this l 0
 rw[e];refine A8 (fun _ _=>rfl) l hl.1 (fun self i h r' hr=>?_) (fun self=>?_) hN
 ·simp only[b2r,m7 l h,u5 hl.1 h,hr,c8,U1 hN _ (hl.2 _ (List.getElem_mem h))];rw[I1 h,d9,B9]
 ·simp only[b2r,P6,g9]
theorem a6u(hN:z7<=N){r:List T8->Option Int}{cc:Int}(v:GValue)(hv:Fit (.rc .value) v)(hr:v.kind=4->r v.cases=some cc):P1 N r v=some (a0A cc v):=by
 obtain⟨_,ht,_,hl,hc⟩:=b39 hv;have hk:(br (v.kind==(4:Int)) (k8 (r v.cases) fun t94=>some t94) (some (0:Int)))=some (if v.kind==4 then cc else 0):=by
  by_cases h4:v.kind=4
  ·rw[hr h4];simp[h4]
  ·rw[show(v.kind==(4:Int))=false from beq_false_of_ne h4];simp
 unfold P1;simp only[GValue.eta,c08,S1,U1 hN _ ht,c8,hk,B9,f6g hN r _ hl,f0o hN r _ hl.1];unfold a0A a6i;generalize a6b v=f;generalize decide ((v.text.length:Int)>1000)=b1;generalize decide ((v.list.length:Int)>1000)=b2;generalize decide ((v.cases.length:Int)>50)=b3;generalize (v.list.any fun s=>decide ((s.length:Int)>1000))=b4;have h0:decide ((0:Int)<=v.number) = !decide (v.number<0):=by
  by_cases h:v.number<0
  ·rw[decide_eq_false (by omega),decide_eq_true h];rfl
  ·rw[decide_eq_true (by omega),decide_eq_false h];rfl
 have h9:decide (v.number<=999999999) = !decide (v.number>999999999):=by
  by_cases h:v.number>999999999
  ·rw[decide_eq_false (by omega),decide_eq_true h];rfl
  ·rw[decide_eq_true (by omega),decide_eq_false h];rfl
 rw[h0,h9];generalize decide (v.number<0)=b5;generalize decide (v.number>999999999)=b6;generalize decide (v.kind<1)=b7;generalize decide (v.kind>4)=b8;cases b7<;>cases b8<;>cases f<;>cases b1<;>cases b2<;>cases b3<;>cases b4<;>cases b5<;>cases b6<;>simp
theorem c5i(hN:z7<=N)(r:List T8->Option Int)(l:List T8)(hl:l.length<=maxLen)(q:d3)(k:Int):c36 N r l (l.length:Int) q (some k) N 0=some (if(l.any fun d=>d.1==q)=true then 7 else k):=by
 have e:(if(l.any fun d=>d.1==q)=true then(7:Int)else k)=N0 (fun _ d r=>if(d.1==q)=true then 7 else r) k l 0:=by
  have:∀(l:List T8) (j:Nat),(if(l.any fun d=>d.1==q)=true then(7:Int)else k)=N0 (fun _ d r=>if(d.1==q)=true then 7 else r) k l j:=by
   intro l;induction l with
   |nil=>intro j;simp[N0]
   |cons x l ih=>
    intro j;show _=(if(x.1==q)=true then 7 else N0 _ k l (j+1));rw[<-ih (j+1),List.any_cons];cases x.1==q
    ·simp only[Bool.false_or,Bool.false_eq_true,if_false]
    ·simp only[Bool.true_or,if_true]
  exact this l 0
 rw[e];refine A8 (fun _ _=>rfl) l hl (fun self i h r' hr=>?_) (fun self=>?_) hN
 ·simp only[c0n,m7 l h,u5 hl h,hr,c8];rw[I1 h,d9,B9]
 ·simp only[c0n,P6,g9]
theorem b23(hN:z7<=N)(r:List T8->Option Int)(l:List T8)(hl:Fit (.sl c4x) l):a0g N r l=some (a4k l):=by
 unfold a0g a4k;by_cases h0:l.length=0
 ·simp[h0]
 ·rw[if_neg h0,show((l.length:Int)==(0:Int))=false from beq_false_of_ne (by omega),g9];refine A8 (fun _ _=>rfl) l hl.1 (fun self i h r' hr=>?_) (fun self=>?_) hN
  ·have hx:=hl.2 _ (List.getElem_mem h);have ht:(l.take i).length<=maxLen:=by have:=hl.1;rw[List.length_take];omega
   have h00:0<l.length:=by omega
   have hin:∀(b:Option Int),(∃z,b=some z)->∃z,b=some z/\c36 N r (l.take i) ((l.take i).length:Int) l[i].1 b N 0=some (if((l.take i).any fun d=>d.1==l[i].1)=true then 7 else z):=fun b ⟨z,hz⟩=>⟨z,hz,by rw[hz];exact c5i hN r _ ht _ _⟩
   simp only[c0m,m7 l h,u5 hl.1 h,hr,c8,b5Q hN _ hx.1,a6V l (Nat.le_of_lt h),GValue.eta,a4D,List.getElem?_eq_getElem h00];rw[I1 h,d9];unfold b1C;rw[List.getElem?_eq_getElem h00];by_cases h4:l[i].2.kind=4
   ·simp only[h4,beq_self_eq_true,d9,c5i hN r _ ht,B9,c0C,if_true];by_cases h1:a2z l[i].1=0<;>simp[h1]
   ·rw[a6u hN (cc:=0) _ hx.2 (fun h=>absurd h h4),c8];have e4:(l[i].2.kind==(4:Int))=false:=beq_false_of_ne h4;simp only[e4,g9,Bool.false_eq_true,if_false];have hb:(br (a0A 0 l[i].2 !=(0:Int)) (some (a0A 0 l[i].2)) (br (l[i].2.kind !=l[0].2.kind) (some (6:Int)) (some r')))=some (if a0A 0 l[i].2≠0 then a0A 0 l[i].2 else if(l[i].2.kind !=l[0].2.kind)=true then 6 else r'):=by
     rw[B9,c0C];split<;>rfl
    rw[hb,c5i hN r _ ht,c0C];by_cases h1:a2z l[i].1=0
    ·simp only[h1,ne_eq,not_true_eq_false,if_false]
    ·simp[h1]
  ·simp only[c0m,P6,g9]
theorem b1X(hN:z7<=N)(v:GValue)(hv:Fit (.rc .value) v):P1 N (P2 N N) v=some (a0B v):=by
 obtain⟨_,_,_,_,hc⟩:=b39 hv;refine a6u hN v hv fun _=>?_
 obtain⟨d,rfl⟩:∃d,N=d+1:=⟨N-1,by unfold z7 at hN;omega⟩;exact b23 hN _ _ hc
structure GoodV(v:GValue):Prop where
 small:v.kind≠4->Small v
 plain:v.kind≠4->v.cases=[]
 some:v.kind=4->v.cases ≠ []
 cases:∀k∈v.cases,Small k.2/\k.2.cases=[]/\a0A 0 k.2=0
 few:v.cases.length<=50
 list:v.list.length<=1000
theorem e0R{v:GValue}{cc:Int}(h:a0A cc v=0):v.list.length<=1000:=by
 apply Classical.byContradiction;intro hn;have e:decide ((v.list.length:Int)>1000)=true:=decide_eq_true (by omega);unfold a0A at h;by_cases c1:decide (v.kind<1)=true
 ·rw[if_pos c1]at h;cases h
 ·rw[if_neg c1]at h;by_cases c2:decide (v.kind>4)=true
  ·rw[if_pos c2]at h;cases h
  ·rw[if_neg c2]at h;by_cases c3:a6b v=true
   ·rw[if_pos c3]at h;cases h
   ·rw[if_neg c3]at h;unfold a6i at h;rw[if_pos e]at h;split at h<;>cases h
theorem f0j{v:GValue}(h:a0B v=0):GoodV v:=by
 rcases d4S h with⟨h4,hp⟩|⟨h4,hc,hf⟩
 ·exact⟨fun _=>c1P h h4,fun _=>hp.cases,fun e=>absurd e h4,fun k hk=>by rw[hp.cases]at hk;exact absurd hk (by simp),by rw[hp.cases];simp,hp.list⟩
 ·exact⟨fun e=>absurd h4 e,fun e=>absurd h4 e,fun _=>hc.some,fun k hk=>⟨c1P (hc.right k hk) (hc.plain k hk).kind,(hc.plain k hk).cases,hc.right k hk⟩,hf,e0R h⟩
theorem a7x{α R:Type}{xs:List α}(ok:α->Bool){k bad:Option R}{f:Nat->Int->Option R}(hstep:∀n i (hi:i<xs.length),f (n+1) (i:Int)=if ok xs[i]=true then f n ((i+1:Nat):Int)else bad)
  (hend:∀n,f (n+1) (xs.length:Int)=k):∀n,xs.length<n->f n 0=if xs.all ok=true then k else bad:=by
 have gen:∀(d n i:Nat),i+d=xs.length->d<n->f n (i:Int)=if(xs.drop i).all ok=true then k else bad:=by
  intro d;induction d with
  |zero=>
   intro n i h hn;obtain⟨n,rfl⟩:∃j,n=j+1:=⟨n-1,by omega⟩;obtain rfl:i=xs.length:=by omega
   rw[hend,List.drop_length];rfl
  |succ d ih=>
   intro n i h hn;obtain⟨n,rfl⟩:∃j,n=j+1:=⟨n-1,by omega⟩;have hi:i<xs.length:=by omega
   rw[hstep n i hi,ih n (i+1) (by omega) (by omega),List.drop_eq_getElem_cons hi,List.all_cons];cases ok xs[i]<;>simp
 intro n hn;have:=gen xs.length n 0 (by omega) hn;simpa using this
def a2U(c:UInt8):Bool:=(a2q 0 c).getD false
theorem d3g:∀n:Fin 256,a2q 0 (UInt8.ofNat n.1)=some (a2U (UInt8.ofNat n.1)):=by decide +kernel
theorem e0B(N:Nat)(c:UInt8):a2q N c=some (a2U c):=by
 have h:=d3g ⟨c.toNat,c.toNat_lt⟩;have e:UInt8.ofNat c.toNat=c:=by simp
 simp only[e]at h;exact h
theorem rb1:∀n:Fin 256,a2m 0 [UInt8.ofNat n.1] 1 none (fun _=>none) 0=if a2U (UInt8.ofNat n.1)=true then none else some false:=by decide +kernel
theorem rb2:∀n:Fin 256,a2m 0 [UInt8.ofNat n.1] 1 none (fun _=>some true) 0=if a2U (UInt8.ofNat n.1)=true then some true else some false:=by decide +kernel
theorem rb3:∀n:Fin 256,a2m 0 [UInt8.ofNat n.1] 1 none (fun _=>some false) 0=if a2U (UInt8.ofNat n.1)=true then some false else some false:=by decide +kernel
theorem d4i(c:UInt8)(A:Option Bool):a2m 0 [c] 1 none (fun _=>A) 0=if a2U c=true then A else some false:=by
 have e:UInt8.ofNat c.toNat=c:=by simp
 match A with
 |none=>have h:=rb1 ⟨c.toNat,c.toNat_lt⟩;simp only[e]at h;exact h
 |some true=>have h:=rb2 ⟨c.toNat,c.toNat_lt⟩;simp only[e]at h;exact h
 |some false=>have h:=rb3 ⟨c.toNat,c.toNat_lt⟩;simp only[e]at h;exact h
theorem c8Y{N:Nat}{x:d3}(hx:x.length<=1048576)(k:Option Bool):∀n,x.length<n->b98 N x (x.length:Int) k n 0=if x.all a2U=true then k else some false:=by
 refine a7x a2U (fun n i hi=>?_) (fun n=>?_)
 ·show a7P N x _ k _ (i:Int)=_;have hw:IntKind.i64.wrap ((i:Int)+1)=((i+1:Nat):Int):=by rw[M8 (by omega) (by omega)];omega
  unfold a7P;rw[a1d (by omega:(i:Int)<(x.length:Int)),m7 x hi,c8,e0B,c8,hw];cases a2U x[i]<;>simp
 ·show a7P N x _ k _ (x.length:Int)=_;unfold a7P;rw[a4V (by omega)]
theorem d4j{N:Nat}{x:d3}(hx:x.length<=1048576)(k:Option Bool):∀n,x.length<n->b48 N x (x.length:Int) k n 0=if x.all a2U=true then k else some false:=by
 refine a7x a2U (fun n i hi=>?_) (fun n=>?_)
 ·show a2m N x _ k _ (i:Int)=_;have hw:IntKind.i64.wrap ((i:Int)+1)=((i+1:Nat):Int):=by rw[M8 (by omega) (by omega)];omega
  have h:=d4i x[i] (b48 N x (x.length:Int) k n ((i+1:Nat):Int));have hg:n8 [x[i]] (0:Int)=some x[i]:=rfl;unfold a2m L7 at h ⊢;rw[a1d (by decide:(0:Int)<1),hg]at h;rw[a1d (by omega:(i:Int)<(x.length:Int)),m7 x hi,hw];exact h
 ·show a2m N x _ k _ (x.length:Int)=_;unfold a2m L7;rw[a4V (by omega)]
def a2V(x:d3):Bool:=x.all a2U && !(x==[]) && !(x==[46]) && !(x==[46,46])
theorem b1Y{N:Nat}(hN:z7<=N){x:d3}(hx:x.length<=1048576):a3U N x=some (a2V x):=by
 have hb:(18446744073709551616:Nat)<=N:=hN;unfold a3U a2V;rw[c8Y hx _ N (by omega)];cases x.all a2U<;>cases (x==([]:d3))<;>cases (x==([46]:d3))<;>cases (x==([46,46]:d3))<;>simp
theorem b3A{N:Nat}(hN:z7<=N){x:d3}(hx:x.length<=1048576):a4a N x=some (a2V x):=by
 have hb:(18446744073709551616:Nat)<=N:=hN;unfold a4a a2V;rw[d4j hx _ N (by omega)];cases x.all a2U<;>cases (x==([]:d3))<;>cases (x==([46]:d3))<;>cases (x==([46,46]:d3))<;>simp
def a6e(x:d3):Bool:=decide (1<=x.length)&&(decide (x.length<=200)&&(K5 47 x).all a2V)
theorem b6E{x:d3}(h:x.length<=1048576):(K5 47 x).length<=1048576+1:=by
 rw[a8S];have:x.count 47<=x.length:=List.count_le_length;omega
theorem c1t{x:d3}(h:x.length<=1048576):∀q∈K5 47 x,q.length<=1048576:=fun q hq=>by
 have:=(c5d 47 x q hq).2;omega
theorem b2V{N:Nat}(hN:z7<=N){P:List d3}(hl:P.length<=1048576+1)(hP:∀q∈P,q.length<=1048576)(k:Option Bool):b97 N P (P.length:Int) k N 0=if P.all a2V=true then k else some false:=by
 have hb:(18446744073709551616:Nat)<=N:=hN;refine a7x a2V (fun n i hi=>?_) (fun n=>?_) N (by omega)
 ·show a7N N P _ _ _ (i:Int)=_;have hw:IntKind.i64.wrap ((i:Int)+1)=((i+1:Nat):Int):=by rw[M8 (by omega) (by omega)];omega
  unfold a7N;rw[a1d (by omega:(i:Int)<(P.length:Int)),m7 P hi,c8,hw,b1Y hN (hP P[i] (List.getElem_mem _)),c8];cases a2V P[i]<;>simp
 ·show a7N N P _ _ _ (P.length:Int)=_;unfold a7N;rw[a4V (by omega)]
theorem b52{N:Nat}(hN:z7<=N){P:List d3}(hl:P.length<=1048576+1)(hP:∀q∈P,q.length<=1048576)(k:Option Bool):c0a N P (P.length:Int) k N 0=if P.all a2V=true then k else some false:=by
 have hb:(18446744073709551616:Nat)<=N:=hN;refine a7x a2V (fun n i hi=>?_) (fun n=>?_) N (by omega)
 ·show a7Q N P _ _ _ (i:Int)=_;have hw:IntKind.i64.wrap ((i:Int)+1)=((i+1:Nat):Int):=by rw[M8 (by omega) (by omega)];omega
  unfold a7Q;rw[a1d (by omega:(i:Int)<(P.length:Int)),m7 P hi,c8,hw,b3A hN (hP P[i] (List.getElem_mem _)),c8];cases a2V P[i]<;>simp
 ·show a7Q N P _ _ _ (P.length:Int)=_;unfold a7Q;rw[a4V (by omega)]
theorem b0g{N:Nat}(hN:z7<=N){x:d3}(h:x.length<=1048576):X3 N x=some (a6e x):=by
 unfold X3 a6e;by_cases g1:(x.length:Int)<1
 ·rw[a1d g1,decide_eq_false (by omega:¬1<=x.length)];rfl
 ·rw[a4V g1,decide_eq_true (by omega:1<=x.length)];by_cases g2:(x.length:Int)>200
  ·rw[a1d g2,decide_eq_false (by omega:¬x.length<=200)];rfl
  ·rw[a4V g2,decide_eq_true (by omega:x.length<=200),a1P _ _ (by omega),c8,b2V hN (b6E h) (c1t h)];cases (K5 47 x).all a2V<;>simp
theorem c1D{N:Nat}(hN:z7<=N){x:d3}(h:x.length<=1048576):a2x N x=some (a6e x):=by
 unfold a2x a6e T2;rw[a1P _ _ (by omega),c8,b52 hN (b6E h) (c1t h)];by_cases g1:1<=x.length
 ·rw[a1d (by omega:(1:Int)<=(x.length:Int)),decide_eq_true g1];by_cases g2:x.length<=200
  ·rw[decide_eq_true (by omega:(x.length:Int)<=200),decide_eq_true g2];cases (K5 47 x).all a2V<;>simp
  ·rw[decide_eq_false (by omega:¬(x.length:Int)<=200),decide_eq_false g2];cases (K5 47 x).all a2V<;>simp
 ·rw[a4V (by omega:¬(1:Int)<=(x.length:Int)),decide_eq_false g1];cases (K5 47 x).all a2V<;>simp
def c1u(x:d3):Bool:=(x==[])||a6e x
theorem e00{N:Nat}(hN:z7<=N){x:d3}(h:x.length<=1048576):a5l N x=some (c1u x):=by
 unfold a5l c1u;rw[c1D hN h];cases (x==([]:d3))<;>simp
theorem d34{x:d3}(h:a6e x=true):x.length<=200:=by
 unfold a6e at h;simp only[Bool.and_eq_true,decide_eq_true_eq]at h;exact h.2.1
def a8i{α:Type}(l:List (d3×α))(i:Nat)(n:d3)(r:Int):Int:=if i=0 then r else match l[i-1]? with|some y=>if(Op.bytesLess n y.1||n==y.1)then 8 else r|none=>r
theorem b2f{α:Type}{l:List (d3×α)}(hx:l.length<=maxLen){i:Nat}(h:i<l.length){n:d3}{r:Int}:
  (br (decide ((i:Int)>0)) (k8 (n8 l (IntKind.i64.wrap ((i:Int)-1))) fun y=>br (Op.bytesLess n y.1||n==y.1) (some 8) (some r)) (some r))=some (a8i l i n r):=by
 unfold maxLen at hx;unfold a8i;cases i with
 |zero=>simp
 |succ j=>
  rw[c9U (by omega),show((j+1:Nat):Int)-1=(j:Int) by omega,m7 l (by omega),c8,B9,decide_eq_true (show((j+1:Nat):Int)>0 by omega),d9,if_neg (Nat.succ_ne_zero j)];rw[show j+1-1=j from rfl,List.getElem?_eq_getElem (by omega)]
theorem a34(n:Int):(n !=0)=decide (n≠0):=by
 show(!decide (n=0))=decide (n≠0);cases h:decide (n=0)with
 |true=>exact(decide_eq_false (fun h'=>h' (of_decide_eq_true h))).symm
 |false=>exact(decide_eq_true (of_decide_eq_false h)).symm
abbrev a2I:Type:=d3×GValue
abbrev y7:Type:=d3×d3×List a2I
abbrev d22:Ty:= .pr .str (.rc .value)
abbrev a1Q:Ty:= .pr .str (.pr .str (.sl d22))
def a2t(a:a2I):Bool:=a.1==([110,97,109,101]:d3)||a.1==([107,105,110,100]:d3)
def a54(l:List a2I)(i:Nat)(a:a2I)(r:Int):Int:=if !B7 a.1 then 5 else if decide (a0B a.2≠0)then a0B a.2 else a8i l i a.1 r
def S4(t:y7):Int:=if !a6e t.1 then 3 else if !B7 t.2.1 then 5 else if 30<t.2.2.length then 2 else N0 (a54 t.2.2) (if t.2.2.any a2t then 5 else 0) t.2.2 0
theorem f0n(a:a2I):T3 N a=some (a2t a):=by
 unfold T3 a2t;rw[B9];cases h1:(a.1==([110,97,109,101]:d3))<;>cases h2:(a.1==([107,105,110,100]:d3))<;>simp
theorem c0s(hN:z7<=N)(l:List a2I)(hl:l.length<=maxLen):I0 N l ()=some (l.any a2t):=by
 unfold I0;have:L2 N l ()=some (a9u a2t l):=by
  unfold L2;refine A8 (fun _ _=>rfl) l hl (fun self i h r hr=>?_) (fun self=>?_) hN
  ·simp only[c0f,m7 l h,u5 hl h,hr,c8,f0n];rw[I1 h,d9,B9]
  ·simp only[c0f,P6,g9]
 rw[this,c8,b8U]
theorem a6t(hN:z7<=N)(t:y7)(ht:Fit a1Q t)(h1:t.1.length<=1048576):L8 N t=some (S4 t):=by
 unfold L8 S4;rw[b0g hN h1,c8,G4 hN _ ht.2.1,c8,c0s hN _ ht.2.2.1,c8];have hL:c8A N t.2.2 (t.2.2.length:Int) t.2.2 (br (t.2.2.any a2t) (some (5:Int)) (some (0:Int))) N 0=some (N0 (a54 t.2.2) (if t.2.2.any a2t then 5 else 0) t.2.2 0):=by
  rw[B9];refine A8 (fun _ _=>rfl) t.2.2 ht.2.2.1 (fun self i h r hr=>?_) (fun self=>?_) hN
  ·have ha:=ht.2.2.2 _ (List.getElem_mem h);simp only[c0j,m7 _ h,u5 ht.2.2.1 h,hr,c8,GValue.eta,G4 hN _ ha.1,a6v hN _ ha.2];rw[I1 h,d9,b2f ht.2.2.1 h,a34];unfold a54;simp only[B9]
  ·simp only[c0j,P6,g9]
 rw[hL,(decide_eq_decide.2 (by omega):decide ((t.2.2.length:Int)>30)=decide (30<t.2.2.length)),B9,B9,B9];simp only[decide_eq_true_eq]
theorem kwR(hN:z7<=N)(l:List a2I)(hl:l.length<=maxLen):b9L N l (l.length:Int) (some 0) N 0=some (if l.any a2t=true then 5 else 0):=by
 have e:(if l.any a2t=true then(5:Int)else 0)=N0 (fun _ a r=>if a2t a=true then 5 else r) 0 l 0:=by
  have:∀(l:List a2I) (j:Nat),(if l.any a2t=true then(5:Int)else 0)=N0 (fun _ a r=>if a2t a=true then 5 else r) 0 l j:=by
   intro l;induction l with
   |nil=>intro j;simp[N0]
   |cons x l ih=>
    intro j;show _=(if a2t x=true then 5 else N0 _ 0 l (j+1));rw[<-ih (j+1),List.any_cons];cases a2t x
    ·simp only[Bool.false_or,Bool.false_eq_true,if_false]
    ·simp only[Bool.true_or,if_true]
  exact this l 0
 rw[e];refine A8 (fun _ _=>rfl) l hl (fun self i h r' hr=>?_) (fun self=>?_) hN
 ·simp only[b2n,m7 l h,u5 hl h,hr,c8];rw[I1 h,d9,B9,B9];unfold a2t;generalize (l[i].1==([110,97,109,101]:d3))=a1;generalize (l[i].1==([107,105,110,100]:d3))=a2;cases a1<;>cases a2<;>rfl
 ·simp only[b2n,P6,g9]
theorem b1W(hN:z7<=N)(t:y7)(ht:Fit a1Q t)(h1:t.1.length<=1048576):a0F N t=some (S4 t):=by
 unfold a0F S4;rw[c1D hN h1,c8,a1Y hN _ ht.2.1,c8,kwR hN _ ht.2.2.1];have hL:b9K N t.2.2 (t.2.2.length:Int) t.2.2 (some (if t.2.2.any a2t=true then 5 else 0)) N 0=some (N0 (a54 t.2.2) (if t.2.2.any a2t then 5 else 0) t.2.2 0):=by
  refine A8 (fun _ _=>rfl) t.2.2 ht.2.2.1 (fun self i h r hr=>?_) (fun self=>?_) hN
  ·have ha:=ht.2.2.2 _ (List.getElem_mem h);simp only[b2m,m7 _ h,u5 ht.2.2.1 h,hr,c8,GValue.eta,a1Y hN _ ha.1,b1X hN _ ha.2];rw[I1 h,d9,b2f ht.2.2.1 h,a34];unfold a54;simp only[B9]
  ·simp only[b2m,P6,g9]
 rw[hL,(decide_eq_decide.2 (by omega):decide ((t.2.2.length:Int)>30)=decide (30<t.2.2.length)),B9,B9,B9];simp only[decide_eq_true_eq]
abbrev O2:Type:=d3×List y7
abbrev a1r:Ty:= .pr .str (.sl a1Q)
def b30(l:List y7)(i:Nat)(t:y7)(r:Int):Int:=if decide (S4 t≠0)then S4 t else a8i l i t.1 r
def W4(p:O2):Int:=if !c1u p.1 then 3 else if 500<p.2.length then 2 else N0 (b30 p.2) 0 p.2 0
theorem b1V(hN:z7<=N)(p:O2)(hp:Fit a1r p)(h1:p.1.length<=1048576)(h2:∀t∈p.2,t.1.length<=1048576):K8 N p=some (W4 p):=by
 unfold K8 W4;have hL:c3G N p.2 (p.2.length:Int) p.2 (some (0:Int)) N 0=some (N0 (b30 p.2) 0 p.2 0):=by
  refine A8 (fun _ _=>rfl) p.2 hp.2.1 (fun self i h r hr=>?_) (fun self=>?_) hN
  ·have ht:=hp.2.2 _ (List.getElem_mem h);simp only[c0h,m7 _ h,u5 hp.2.1 h,hr,c8,a6t hN _ ht (h2 _ (List.getElem_mem h))];rw[I1 h,d9,b2f hp.2.1 h,a34];unfold b30;simp only[B9]
  ·simp only[c0h,P6,g9]
 rw[hL,b0g hN h1,c8,(decide_eq_decide.2 (by omega):decide ((p.2.length:Int)>500)=decide (500<p.2.length))];unfold c1u;simp only[B9,decide_eq_true_eq];cases p.1==([]:d3)<;>cases a6e p.1<;>simp
theorem b0b(hN:z7<=N)(p:O2)(hp:Fit a1r p)(h1:p.1.length<=1048576)(h2:∀t∈p.2,t.1.length<=1048576):O5 N p=some (W4 p):=by
 unfold O5 W4;have hL:c8K N p.2 (p.2.length:Int) p.2 (some (0:Int)) N 0=some (N0 (b30 p.2) 0 p.2 0):=by
  refine A8 (fun _ _=>rfl) p.2 hp.2.1 (fun self i h r hr=>?_) (fun self=>?_) hN
  ·have ht:=hp.2.2 _ (List.getElem_mem h);simp only[c0l,m7 _ h,u5 hp.2.1 h,hr,c8,b1W hN _ ht (h2 _ (List.getElem_mem h))];rw[I1 h,d9,b2f hp.2.1 h,a34];unfold b30;simp only[B9]
  ·simp only[c0l,P6,g9]
 rw[hL,e00 hN h1,c8,(decide_eq_decide.2 (by omega):decide ((p.2.length:Int)>500)=decide (500<p.2.length))];simp only[B9,decide_eq_true_eq]
theorem a7m{α:Type}{q:Nat->α->Prop}{body:Nat->α->Int->Int}(h:∀i x r,body i x r=0->q i x/\r=0):∀(xs:List α) (k:Int) (j:Nat),N0 body k xs j=0->(∀i (hi:i<xs.length),q (j+i) xs[i])/\k=0
 |[],k,j,h'=>⟨fun i hi=>absurd hi (by simp),h'⟩
 |x :: xs,k,j,h'=>by
  obtain⟨h1,h2⟩:=h _ _ _ (show body j x (N0 body k xs (j+1))=0 from h');obtain⟨h3,h4⟩:=a7m h xs k (j+1) h2;refine⟨fun i hi=>?_,h4⟩;cases i with
  |zero=>exact h1
  |succ i=>
   have:=h3 i (by simpa using hi);simpa [Nat.add_assoc,Nat.add_comm 1]using this
theorem a7t{α:Type}{l:List (d3×α)}{i:Nat}{n:d3}{r:Int}(h:a8i l i n r=0):r=0:=by
 unfold a8i at h;split at h
 ·exact h
 ·split at h
  ·split at h
   ·cases h
   ·exact h
  ·exact h
theorem c1m{t:Ty}{x:t.den}:∀{l:List t.den},x∈l->M4 rbC t x<=M4 rbC (.sl t) l
 |y :: l,h=>by
  show _<=((y :: l).map (M4 rbC t)).sum+1;rw[List.map_cons,List.sum_cons];rcases List.mem_cons.1 h with rfl|h
  ·omega
  ·have:=c1m h;have e:M4 rbC (.sl t) l=(l.map (M4 rbC t)).sum+1:=rfl;omega
theorem b0G{l:List a2I}{k:Int}(h:N0 (a54 l) k l 0=0):(∀a∈l,B7 a.1=true)/\l.Pairwise fun a b=>a.1<b.1:=by
 have:=(a7m (q:=fun i a=>B7 a.1=true/\a8i l i a.1 0=0) (body:=a54 l) (fun i x r hx=>by
  unfold a54 at hx;split at hx
  ·cases hx
  ·rename_i hn;split at hx
   ·rename_i h2;exact absurd hx (by simpa using h2)
   ·have hr:=a7t hx;subst hr;exact⟨⟨by simpa using hn,hx⟩,rfl⟩) l k 0 h).1
 refine⟨fun a ha=>?_,?_⟩
 ·obtain⟨i,hi,rfl⟩:=List.mem_iff_getElem.1 ha;exact(this i hi).1
 ·have step:∀i (hi:i+1<l.length),l[i].1<l[i+1].1:=fun i hi=>by
   have h2:=(this (i+1) hi).2;rw[Nat.zero_add]at h2;unfold a8i at h2;rw[if_neg (by omega),Nat.add_sub_cancel,List.getElem?_eq_getElem (by omega)]at h2;dsimp only at h2;split at h2
   ·cases h2
   ·rename_i hb;simp only[Bool.or_eq_true,not_or,Bool.not_eq_true]at hb;rw[a9w]at hb;have h3:¬l[i+1].1<l[i].1:=by simpa using hb.1
    have h4:¬l[i+1].1=l[i].1:=by simpa using hb.2
    exact Classical.byContradiction fun h5=>h4 (b9v _ _ h3 h5)
  rw[List.pairwise_iff_getElem];intro i j hi hj hij;obtain⟨d,rfl⟩:∃d,j=i+1+d:=⟨j-(i+1),by omega⟩;induction d with
  |zero=>exact step i (by omega)
  |succ d ih=>exact a0M (ih (by omega) (by omega)) (step (i+1+d) (by omega))
theorem a5u{t:y7}(h:S4 t=0):t.2.2.length<=30/\(∀a∈t.2.2,B7 a.1=true)/\t.2.2.Pairwise fun a b=>a.1<b.1:=by
 unfold S4 at h;split at h
 ·cases h
 ·split at h
  ·cases h
  ·split at h
   ·cases h
   ·rename_i h1 h2 h3;exact⟨by omega,b0G h⟩
theorem a8G{α:Type}:∀(l:List α) (i:Nat) (hi:i<l.length),(l[i] :: l.eraseIdx i).Perm l
 |[],i,hi=>absurd hi (Nat.not_lt_zero _)
 |a :: l,0,hi=>List.Perm.refl _
 |a :: l,i+1,hi=>by
  have:=a8G l i (by simpa using hi);exact(List.Perm.swap _ _ _).trans (List.Perm.cons a this)
theorem b3v{p:O2}(h:W4 p=0):p.2.length<=500/\(∀t∈p.2,S4 t=0)/\p.2.Pairwise fun a b=>a.1<b.1:=by
 unfold W4 at h;split at h
 ·cases h
 ·split at h
  ·cases h
  ·rename_i h1 h2;refine⟨by omega,?_⟩;have:=(a7m (q:=fun i t=>S4 t=0/\a8i p.2 i t.1 0=0) (body:=b30 p.2) (fun i x r hx=>by
    unfold b30 at hx;split at hx
    ·rename_i h3;exact absurd hx (by simpa using h3)
    ·rename_i h3;have hr:=a7t hx;subst hr;exact⟨⟨by simpa using h3,hx⟩,rfl⟩) p.2 0 0 h).1
   refine⟨fun a ha=>?_,?_⟩
   ·obtain⟨i,hi,rfl⟩:=List.mem_iff_getElem.1 ha;exact(this i hi).1
   ·have step:∀i (hi:i+1<p.2.length),p.2[i].1<p.2[i+1].1:=fun i hi=>by
     have h2:=(this (i+1) hi).2;rw[Nat.zero_add]at h2;unfold a8i at h2;rw[if_neg (by omega),Nat.add_sub_cancel,List.getElem?_eq_getElem (by omega)]at h2;dsimp only at h2;split at h2
     ·cases h2
     ·rename_i hb;simp only[Bool.or_eq_true,not_or,Bool.not_eq_true]at hb;rw[a9w]at hb;have h3:¬p.2[i+1].1<p.2[i].1:=by simpa using hb.1
      have h4:¬p.2[i+1].1=p.2[i].1:=by simpa using hb.2
      exact Classical.byContradiction fun h5=>h4 (b9v _ _ h3 h5)
    rw[List.pairwise_iff_getElem];intro i j hi hj hij;obtain⟨d,rfl⟩:∃d,j=i+1+d:=⟨j-(i+1),by omega⟩;induction d with
    |zero=>exact step i (by omega)
    |succ d ih=>exact a0M (ih (by omega) (by omega)) (step (i+1+d) (by omega))
end
section
variable{N:Nat}
section
variable{w:List K6}{i:Nat}
end
section
variable{w:List K6}{e0:Int}{R:RX}{L:Nat}
end
end
section
variable{N:Nat}
section
variable{w:List K6}{e0:Int}{R:RX}{L:Nat}
end
end
section
variable{N:Nat}
abbrev W64:Int->Int:=IntKind.i64.wrap
theorem W_l(a b:Int):IntKind.i64.wrap (IntKind.i64.wrap a+b)=IntKind.i64.wrap (a+b):=by
 simp only[IntKind.wrap,IntKind.signed,IntKind.bits];simp;split<;>split<;>split<;>omega
theorem W_r(a b:Int):IntKind.i64.wrap (a+IntKind.i64.wrap b)=IntKind.i64.wrap (a+b):=by
 rw[Int.add_comm,W_l,Int.add_comm]
theorem W_m(a b c:Int):IntKind.i64.wrap (a+(IntKind.i64.wrap b+IntKind.i64.wrap c))=IntKind.i64.wrap (a+(b+c)):=by
 rw[<-W_r a (IntKind.i64.wrap b+IntKind.i64.wrap c),W_l,W_r b c,W_r]
theorem GStmt.eta(s:GStmt):GStmt.mk s.kind s.name s.text s.params s.args s.expr s.body s.els s.at_=s:=by cases s;rfl
theorem EOk.kids{k:Nat}{e:GExpr}(h:EOk (k+1) e):e.kids.length<=50000/\∀c∈e.kids,EOk k c:=by
 have two:∀a b:GExpr,EOk k a->EOk k b->∀c ∈ [a,b],EOk k c:=fun a b ha hb c hc=>by
  rcases List.mem_cons.1 hc with rfl|hc
  ·exact ha
  ·rw[List.mem_singleton.1 hc];exact hb
 rcases h with⟨t,h1,rfl⟩|⟨m,rfl⟩|⟨t,h1,h2,rfl⟩|⟨es,h1,rfl,h3⟩|⟨a,b,rfl,h2,h3⟩|⟨ks,es,h0,hp,h1,h4,rfl,h3⟩|⟨a,b,rfl,h2,h3⟩|⟨a,b,rfl,h2,h3⟩
 ·exact⟨by simp[C6],by simp[C6]⟩
 ·exact⟨by simp[C6],by simp[C6]⟩
 ·exact⟨by simp[C6],by simp[C6]⟩
 ·exact⟨h1,h3⟩
 ·exact⟨by simp[C6],two a b h2 h3⟩
 ·exact⟨h1,h3⟩
 ·exact⟨by simp[C6],two a b h2 h3⟩
 ·exact⟨by simp[C6],two a b h2 h3⟩
theorem b6x{S R:GExpr->Option Int}{es:List GExpr}(hl:es.length<=50000)(hc:∀c∈es,∃v,S c=some (W64 v)/\R c=some (W64 v)):∀(u j:Nat),j+u=es.length->∃c:Int,∀(f1 f2:Nat),u<f1->u<f2->∀z:Int,
  b9X N S es (es.length:Int) (fun o=>some o) f1 (W64 z) (j:Int)=some (W64 (z+c))/\b9Y N R es (es.length:Int) (fun o=>some o) f2 (W64 z) (j:Int)=some (W64 (z+c))
 |0,j,hj=>⟨0,fun f1 f2 h1 h2 z=>by
  obtain⟨f1,rfl⟩:∃q,f1=q+1:=⟨f1-1,by omega⟩;obtain⟨f2,rfl⟩:∃q,f2=q+1:=⟨f2-1,by omega⟩;obtain rfl:j=es.length:=by omega
  show a4h _ _ _ _ _ _ _ _=_/\a7M _ _ _ _ _ _ _ _=_;unfold a4h a7M;rw[Q5,g9,g9,Int.add_zero];exact⟨rfl,rfl⟩⟩
 |u+1,j,hj=>by
  have h:j<es.length:=by omega
  obtain⟨c,ih⟩:=b6x hl hc u (j+1) (by omega);obtain⟨v,e1,e2⟩:=hc _ (List.getElem_mem h);refine⟨v+c,fun f1 f2 h1 h2 z=>?_⟩;obtain⟨f1,rfl⟩:∃q,f1=q+1:=⟨f1-1,by omega⟩;obtain⟨f2,rfl⟩:∃q,f2=q+1:=⟨f2-1,by omega⟩;show a4h _ _ _ _ _ _ _ _=_/\a7M _ _ _ _ _ _ _ _=_;unfold a4h a7M;rw[L4 h,d9,d9,m7 _ h];simp only[c8,GExpr.eta,e1,e2,a0C (n:=(j:Int)+1) (m:=j+1) (by omega) (by omega),W64,W_l,W_r];have:=ih f1 f2 (by omega) (by omega) (z+v);rw[<-Int.add_assoc];exact this
theorem b0m(hN:z7<=N):∀(k:Nat) (e:GExpr),EOk k e->∀n,k<=n->∃v,T4 N n e=some (W64 v)/\a0q N n e=some (W64 v)
 |0,e,h,_,_=>h.elim
 |k+1,e,h,n,hn=>by
  obtain⟨n,rfl⟩:∃q,n=q+1:=⟨n-1,by omega⟩;obtain⟨h1,h2⟩:=h.kids;obtain⟨c,hc⟩:=b6x (N:=N) (S:=T4 N n) (R:=a0q N n) h1 (fun c hc=>b0m hN k c (h2 c hc) n (by omega)) e.kids.length 0 (by omega);have:=hc N N (by unfold z7 at hN;omega) (by unfold z7 at hN;omega) 1;exact⟨1+c,this.1,this.2⟩
theorem b3P(hN:z7<=N){SB RB:List GStmt->Option Int}{ag:List Ag}(hl:ag.length<=50000)(hc:∀q∈ag,EOk 60000 q.2):∀(u j:Nat),j+u=ag.length->∃c:Int,∀(f1 f2:Nat),u<f1->u<f2->∀(z:Int) (K1 K2:Int->Option Int),
  a3N N SB ag (ag.length:Int) K1 f1 (W64 z) (j:Int)=K1 (W64 (z+c))/\b07 N RB ag (ag.length:Int) K2 f2 (W64 z) (j:Int)=K2 (W64 (z+c))
 |0,j,hj=>⟨0,fun f1 f2 h1 h2 z K1 K2=>by
  obtain⟨f1,rfl⟩:∃q,f1=q+1:=⟨f1-1,by omega⟩;obtain⟨f2,rfl⟩:∃q,f2=q+1:=⟨f2-1,by omega⟩;obtain rfl:j=ag.length:=by omega
  show a0N _ _ _ _ _ _ _ _=_/\a5N _ _ _ _ _ _ _ _=_;unfold a0N a5N;rw[Q5,g9,g9,Int.add_zero];exact⟨rfl,rfl⟩⟩
 |u+1,j,hj=>by
  have h:j<ag.length:=by omega
  obtain⟨c,ih⟩:=b3P hN (SB:=SB) (RB:=RB) hl hc u (j+1) (by omega);obtain⟨v,e1,e2⟩:=b0m hN 60000 _ (hc _ (List.getElem_mem h)) N (by unfold z7 at hN;omega);refine⟨v+c,fun f1 f2 h1 h2 z K1 K2=>?_⟩;obtain⟨f1,rfl⟩:∃q,f1=q+1:=⟨f1-1,by omega⟩;obtain⟨f2,rfl⟩:∃q,f2=q+1:=⟨f2-1,by omega⟩;show a0N _ _ _ _ _ _ _ _=_/\a5N _ _ _ _ _ _ _ _=_;unfold a0N a5N;rw[L4 h,d9,d9,m7 _ h];simp only[c8,GExpr.eta,e1,e2,a0C (n:=(j:Int)+1) (m:=j+1) (by omega) (by omega),W64,W_l,W_r];have:=ih f1 f2 (by omega) (by omega) (z+v) K1 K2;rw[<-Int.add_assoc];exact this
def b8S(G:GStmt):Bool:=G.kind==1||(G.kind==4||G.kind==5)
structure SParts(k:Nat)(G:GStmt):Prop where
 args:G.args.length<=50000/\∀q∈G.args,EOk 60000 q.2
 expr:(b8S G=true/\EOk 60000 G.expr)\/(b8S G=false/\G.expr=zE)
 body:G.body.length<=50000/\∀c∈G.body,SOk k c
 els:G.els.length<=50000/\∀c∈G.els,SOk k c
 kind:G.kind=1\/G.kind=2\/G.kind=3\/G.kind=4\/G.kind=5\/G.kind=6
theorem SOk.parts{k:Nat}{G:GStmt}(h:SOk (k+1) G):SParts k G:=by
 rcases h with⟨q,E,a,h1,h2,rfl⟩|⟨q,ag,a,h1,h2,h3,rfl⟩|⟨q,ps,b,a,h1,h2,h3,h4,h5,rfl⟩|⟨q,E,b,a,h1,h2,h3,h4,rfl⟩|⟨E,b,l,a,h1,h2,h3,h4,h5,rfl⟩|⟨t,a,h1,rfl⟩
 ·exact⟨⟨by simp[GStmt.args],by simp[GStmt.args]⟩,.inl ⟨rfl,h2⟩,⟨by simp[GStmt.body],by simp[GStmt.body]⟩,⟨by simp[GStmt.els],by simp[GStmt.els]⟩,.inl rfl⟩
 ·exact⟨⟨h2,fun q hq=>(h3 q hq).2⟩,.inr ⟨rfl,rfl⟩,⟨by simp[GStmt.body],by simp[GStmt.body]⟩,⟨by simp[GStmt.els],by simp[GStmt.els]⟩,.inr (.inl rfl)⟩
 ·exact⟨⟨by simp[GStmt.args],by simp[GStmt.args]⟩,.inr ⟨rfl,rfl⟩,⟨h4,h5⟩,⟨by simp[GStmt.els],by simp[GStmt.els]⟩,.inr (.inr (.inl rfl))⟩
 ·exact⟨⟨by simp[GStmt.args],by simp[GStmt.args]⟩,.inl ⟨rfl,h2⟩,⟨h3,h4⟩,⟨by simp[GStmt.els],by simp[GStmt.els]⟩,.inr (.inr (.inr (.inl rfl)))⟩
 ·exact⟨⟨by simp[GStmt.args],by simp[GStmt.args]⟩,.inl ⟨rfl,h1⟩,⟨h2,h3⟩,⟨h4,h5⟩,.inr (.inr (.inr (.inr (.inl rfl))))⟩
 ·exact⟨⟨by simp[GStmt.args],by simp[GStmt.args]⟩,.inr ⟨rfl,rfl⟩,⟨by simp[GStmt.body],by simp[GStmt.body]⟩,⟨by simp[GStmt.els],by simp[GStmt.els]⟩,.inr (.inr (.inr (.inr (.inr rfl))))⟩
theorem d3G{k:Nat}{G:GStmt}(h:SParts k G):∃hs,D8 N G=some hs/\hs.2.2.2.2.1=b8S G:=by
 unfold D8 b8S;rcases h.kind with e|e|e|e|e|e<;>rw[e]<;>simp
theorem f0a{k:Nat}{G:GStmt}(P:SParts k G):(br (G.kind==1) (some true) (br (G.kind==4) (some true) (br (G.kind==5) (some true) (k8 (T1 N G.expr) fun t40=>some (!t40)))))=some (b8S G):=by
 rcases P.expr with⟨hE,hOk⟩|⟨hE,hz⟩
 ·rw[hE];unfold b8S at hE;simp only[Bool.or_eq_true]at hE;rcases hE with e|e|e
  ·rw[e];simp
  ·rw[e];cases G.kind==1<;>simp
  ·rw[e];cases G.kind==1<;>cases G.kind==4<;>simp
 ·rw[hE,hz];unfold b8S at hE;simp only[Bool.or_eq_false_iff]at hE;rw[hE.1,hE.2.1,hE.2.2];simp[T1,F4,Q1,G3,O3,C6]
theorem b28(hN:z7<=N){SB RB:List GStmt->Option Int}{k:Nat}{Gs:List GStmt}(hl:Gs.length<=50000)(hG:∀G∈Gs,SParts k G)
  (hB:∀l:List GStmt,l.length<=50000->(∀c∈l,SOk k c)->∃v,SB l=some (W64 v)/\RB l=some (W64 v)):∀(u j:Nat),j+u=Gs.length->∃c:Int,∀(f1 f2:Nat),u<f1->u<f2->∀z:Int,
  a3M N SB Gs (Gs.length:Int) (fun o=>some o) f1 (W64 z) (j:Int)=some (W64 (z+c))/\a8Y N RB Gs (Gs.length:Int) (fun o=>some o) f2 (W64 z) (j:Int)=some (W64 (z+c))
 |0,j,hj=>⟨0,fun f1 f2 h1 h2 z=>by
  obtain⟨f1,rfl⟩:∃q,f1=q+1:=⟨f1-1,by omega⟩;obtain⟨f2,rfl⟩:∃q,f2=q+1:=⟨f2-1,by omega⟩;obtain rfl:j=Gs.length:=by omega
  show Q3 _ _ _ _ _ _ _ _=_/\a2l _ _ _ _ _ _ _ _=_;unfold Q3 a2l;rw[Q5,g9,g9,Int.add_zero];exact⟨rfl,rfl⟩⟩
 |u+1,j,hj=>by
  have h:j<Gs.length:=by omega
  obtain⟨c,ih⟩:=b28 hN hl hG hB u (j+1) (by omega);have P:=hG _ (List.getElem_mem h);obtain⟨cb,b1,b2⟩:=hB _ P.body.1 P.body.2;obtain⟨ce,l1,l2⟩:=hB _ P.els.1 P.els.2;obtain⟨hs,q1,q2⟩:=d3G (N:=N) P;obtain⟨ca,ha⟩:=b3P hN (SB:=SB) (RB:=RB) P.args.1 P.args.2 Gs[j].args.length 0 (by omega);have hbN:1000000<N:=by unfold z7 at hN;omega
  have ha':=fun z K1 K2=>ha N N (by have:=P.args.1;omega) (by have:=P.args.1;omega) z K1 K2
  have hw:=a0C (n:=(j:Int)+1) (m:=j+1) (by omega) (by omega);have hc:=f0a (N:=N) P;have ha1:=fun z K1=>(ha' z K1 (fun _=>none)).1
  have ha2:=fun z K2=>(ha' z (fun _=>none) K2).2
  rcases P.expr with⟨hE,hOk⟩|⟨hE,hz⟩
  ·obtain⟨m,m1,m2⟩:=b0m hN 60000 _ hOk N (by omega);refine⟨1+cb+ce+m+ca+c,fun f1 f2 h1 h2 z=>?_⟩;obtain⟨f1,rfl⟩:∃q,f1=q+1:=⟨f1-1,by omega⟩;obtain⟨f2,rfl⟩:∃q,f2=q+1:=⟨f2-1,by omega⟩;have ih':=ih f1 f2 (by omega) (by omega) (z+(1+cb+ce+m+ca));show Q3 _ _ _ _ _ _ _ _=_/\a2l _ _ _ _ _ _ _ _=_;unfold Q3 a2l;rw[L4 h,d9,d9,m7 _ h];rw[hE]at hc q2;simp only[c8,GExpr.eta,GStmt.eta,q1,q2,hc,d9,m1,m2,b1,b2,l1,l2,W64,W_l,W_r,W_m,hw];rw[show(0:Int)=((0:Nat):Int)from rfl,ha1,ha2];simp only[W64,W_l,W_r,W_m];have e1:IntKind.i64.wrap (z+(1+IntKind.i64.wrap cb+IntKind.i64.wrap ce)+m+ca)=IntKind.i64.wrap (z+(1+cb+ce+m+ca)):=by
    rw[show z+(1+IntKind.i64.wrap cb+IntKind.i64.wrap ce)+m+ca=(z+1+m+ca)+(IntKind.i64.wrap cb+IntKind.i64.wrap ce) by omega,W_m];congr 1;omega
   rw[e1,show z+1+m+ca+(cb+ce)=z+(1+cb+ce+m+ca) by omega,show z+(1+cb+ce+m+ca+c)=z+(1+cb+ce+m+ca)+c by omega];exact ih'
  ·refine⟨1+cb+ce+ca+c,fun f1 f2 h1 h2 z=>?_⟩;obtain⟨f1,rfl⟩:∃q,f1=q+1:=⟨f1-1,by omega⟩;obtain⟨f2,rfl⟩:∃q,f2=q+1:=⟨f2-1,by omega⟩;have ih':=ih f1 f2 (by omega) (by omega) (z+(1+cb+ce+ca));show Q3 _ _ _ _ _ _ _ _=_/\a2l _ _ _ _ _ _ _ _=_;unfold Q3 a2l;rw[L4 h,d9,d9,m7 _ h];rw[hE]at hc q2;simp only[c8,GExpr.eta,GStmt.eta,q1,q2,hc,g9,b1,b2,l1,l2,W64,W_l,W_r,W_m,hw];rw[show(0:Int)=((0:Nat):Int)from rfl,ha1,ha2];simp only[W64,W_l,W_r,W_m];have e1:IntKind.i64.wrap (z+(1+IntKind.i64.wrap cb+IntKind.i64.wrap ce)+ca)=IntKind.i64.wrap (z+(1+cb+ce+ca)):=by
    rw[show z+(1+IntKind.i64.wrap cb+IntKind.i64.wrap ce)+ca=(z+1+ca)+(IntKind.i64.wrap cb+IntKind.i64.wrap ce) by omega,W_m];congr 1;omega
   rw[e1,show z+1+ca+(cb+ce)=z+(1+cb+ce+ca) by omega,show z+(1+cb+ce+ca+c)=z+(1+cb+ce+ca)+c by omega];exact ih'
theorem b27(hN:z7<=N):∀(k:Nat) (Gs:List GStmt),Gs.length<=50000->(∀G∈Gs,SOk k G)->∀n,k<n->∃v,A4 N n Gs=some (W64 v)/\R6 N n Gs=some (W64 v)
 |k,Gs,hl,hG,0,hn=>absurd hn (by omega)
 |0,Gs,hl,hG,n+1,hn=>by
  have:Gs=[]:=List.eq_nil_iff_forall_not_mem.2 fun G hg=>hG G hg
  subst this;obtain⟨f,hf,_⟩:=c0z hN;refine⟨0,?_,?_⟩
  ·show a3M N (A4 N n) [] _ _ N 0 0=_;have:a3M N (A4 N n) [] ((([]:List GStmt).length:Nat):Int) (fun o=>some o) N 0 0=Q3 N (A4 N n) [] ((([]:List GStmt).length:Nat):Int) (fun o=>some o) (a3M N (A4 N n) [] ((([]:List GStmt).length:Nat):Int) (fun o=>some o) f) 0 0:=by
    conv=>lhs;arg 6;rw[hf]
    rfl
   rw[this];simp[Q3];rfl
  ·show a8Y N (R6 N n) [] _ _ N 0 0=_;have:a8Y N (R6 N n) [] ((([]:List GStmt).length:Nat):Int) (fun o=>some o) N 0 0=a2l N (R6 N n) [] ((([]:List GStmt).length:Nat):Int) (fun o=>some o) (a8Y N (R6 N n) [] ((([]:List GStmt).length:Nat):Int) (fun o=>some o) f) 0 0:=by
    conv=>lhs;arg 6;rw[hf]
    rfl
   rw[this];simp[a2l];rfl
 |k+1,Gs,hl,hG,n+1,hn=>by
  obtain⟨c,hc⟩:=b28 hN (SB:=A4 N n) (RB:=R6 N n) hl (fun G hg=>(hG G hg).parts) (fun l h1 h2=>b27 hN k l h1 h2 n (by omega)) Gs.length 0 (by omega);have:=hc N N (by unfold z7 at hN;omega) (by unfold z7 at hN;omega) 0;exact⟨0+c,this.1,this.2⟩
end
end Go.Proofs.YtckdohagilcloaaGreatDoor
