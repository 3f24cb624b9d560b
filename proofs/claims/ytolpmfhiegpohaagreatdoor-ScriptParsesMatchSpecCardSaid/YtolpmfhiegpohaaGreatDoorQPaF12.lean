/- What functions of the program compute, as plain functions (printed). -/
import Derived.Test.YtolpmfhiegpohaaGreatDoorQPaF11
namespace Go.Proofs.YtolpmfhiegpohaaGreatDoor
open Go Go.RowKit
set_option maxRecDepth 100000
set_option linter.unusedVariables false
noncomputable section
variable(N:Nat)
def a9k(b:List c8)(c:Int)(e:List c8)(k0:Option Bool)(self:ρ29)(a:Int):Option Bool:=br (decide (a<c)) (f5 (l6 b a) fun g=>f5 (slc e 0 a) fun l=>f5 (m8 N l g) fun m=>br (m) (some true) (self (IntKind.i64.wrap (a+1)))) (k0)
def b4V(N:Nat)(a:List c8)(b:Int)(c:List c8)(k0:Option Bool):Nat->Int->Option Bool|0,_=>none|n+1,e=>a9k N a b c k0 (b4V N a b c k0 n) e
def a9m(_N:Nat)(b:List (c8×GExpr))(c:Int)(e:c8)(k4:Option Bool)(self:ρ29)(a:Int):Option Bool:=br (decide (a<c)) (f5 (l6 b a) fun g=>br (e==g.1) (some true) (self (IntKind.i64.wrap (a+1)))) (k4)
def b4X(N:Nat)(a:List (c8×GExpr))(b:Int)(c:c8)(k4:Option Bool):Nat->Int->Option Bool|0,_=>none|n+1,e=>a9m N a b c k4 (b4X N a b c k4 n) e
def a9l(c:List (c8×GExpr))(e:Int)(g:List (c8×GExpr))(k2:Option Bool)(self:ρ29)(a:Int):Option Bool:=br (decide (a<e)) (f5 (l6 c a) fun l=>f5 (slc g 0 a) fun b=>b4X N b (b.length:Int) l.1 (self (IntKind.i64.wrap (a+1))) N 0) (k2)
def b4W(N:Nat)(a:List (c8×GExpr))(b:Int)(c:List (c8×GExpr))(k2:Option Bool):Nat->Int->Option Bool|0,_=>none|n+1,e=>a9l N a b c k2 (b4W N a b c k2 n) e
def a1s(a:GStmt):Option Bool:=b4V N a.params (a.params.length:Int) a.params (b4W N a.args (a.args.length:Int) a.args (some false) N 0) N 0
abbrev d9W:=P4 [.v τ16] [] [V2] [] (Bool) fun z=>((z,()),())
abbrev c1b:AF:=d9W fun x _=>a1s N x.1
abbrev c3w:SV [V2]->BV []->Bool:=fun x _=>x.1
def c3v:FuncId->Option Tmp->Option AF:=fun f _=>O5 [(178,z4g N)] f
theorem c76:I8 (c3v N):=fun _ _ _ h=>o6 h (v8 (b3e N) G7)
def a18:Nat->Hint:=fun i=>
 match i with
 |0=>⟨[],[1,10,11,12],[1001],[1],[1001],[]⟩
 |2=>⟨[],[1,25,26,27],[1001],[],[],[]⟩
 |4=>⟨[],[1,6,25,26,27,35,36,37],[1001,1006],[1,25,26,27],[1001],[]⟩
 |_=>o3
abbrev W1:Env:=S9 a18 (c3v N) FF FF |>.jk (fun _=>none)
noncomputable abbrev b1P:Code:=V7 (m9 Tryz.f154) [true,false,true,false,false]
noncomputable abbrev b1O:Code:=V7 (m9 Tryz.f154) [true,true,false,true,false,false]
noncomputable abbrev a8u:Code:=V7 (m9 Tryz.f154) [true,true,false,true,false,false,true,true,false,false,true,true,false,false]
abbrev a0v:=A8 (W1 N) Tryz.f154 (c1b N) c3w
abbrev a6r:List (Nat×Sl):=[(1,.box 1001 0),(10,V4),(11,V0),(12,V0)]
abbrev a6q:List (Nat×Sb):=[(1001,.cells [V0,V1,V1,V4,.v (.sl τ9),V0,V1,V0,V4,.v (.sl τ4),.v τ6,.v τ6,V0])]
def b1L(a:List c8)(b c:Int)(e g:c8)(l:List c8)(m:List (c8×GExpr))(o:Int)(p:c8)(q:Int)(r:List c8)(t:List GExpr)(u w:List GStmt)(B C:Int):St:=⟨48,[(1,.box 1001 0),(10,.v V6 a),(11,.v τ2 b),(12,.v τ2 C)],[(1001,.cells [.v τ2 c,.v .str e,.v .str g,.v V6 l,.v (.sl τ9) m,.v τ2 o,.v .str p,.v τ2 q,.v V6 r,.v (.sl τ4) t,.v τ6 u,.v τ6 w,.v τ2 B])]⟩
def a33(_w:List c8)(_B a:Int)(b c:c8)(e:List c8)(g:List (c8×GExpr))(l:Int)(m:c8)(o:Int)(p:List c8)(q:List GExpr)(r t:List GStmt)(u:Int):St:=⟨48,[(1,.box 1001 0)],[(1001,.cells [.v τ2 a,.v .str b,.v .str c,.v V6 e,.v (.sl τ9) g,.v τ2 l,.v .str m,.v τ2 o,.v V6 p,.v (.sl τ4) q,.v τ6 r,.v τ6 t,.v τ2 u])]⟩
def d0R(a:List c8)(b e:Int)(g l:c8)(c:List c8)(m:List (c8×GExpr))(o:Int)(p:c8)(q:Int)(r:List c8)(t:List GExpr)(u v:List GStmt)(w B:Int)(k:Ex->St->Option Bool):Option Bool:=b4V N a b c (k (.exit 0) (a33 a b e g l c m o p q r t u v w)) N B
abbrev c05:FV a6r->HV a6q->(Ex->St->Option Bool)->Option Bool:=fun x y k=>d0R N x.2.1 x.2.2.1 y.1.1 y.1.2.1 y.1.2.2.1 y.1.2.2.2.1 y.1.2.2.2.2.1 y.1.2.2.2.2.2.1 y.1.2.2.2.2.2.2.1 y.1.2.2.2.2.2.2.2.1 y.1.2.2.2.2.2.2.2.2.1 y.1.2.2.2.2.2.2.2.2.2.1 y.1.2.2.2.2.2.2.2.2.2.2.1 y.1.2.2.2.2.2.2.2.2.2.2.2.1 y.1.2.2.2.2.2.2.2.2.2.2.2.2.1 x.2.2.2.1 k
abbrev a6v:List (Nat×Sl):=[(1,.box 1001 0),(6,.box 1006 0),(25,.v (.sl τ9)),(26,V0),(27,V0),(35,.v (.sl τ9)),(36,V0),(37,V0)]
abbrev a6u:List (Nat×Sb):=[(1001,.cells [V0,V1,V1,V4,.v (.sl τ9),V0,V1,V0,V4,.v (.sl τ4),.v τ6,.v τ6,V0]),(1006,.cells [V1,V0,V1,V0,V4,.v (.sl τ4)])]
def b1N(a:List (c8×GExpr))(b c:Int)(e:List (c8×GExpr))(g l:Int)(m o:c8)(p:List c8)(q:List (c8×GExpr))(r:Int)(t:c8)(u:Int)(w:List c8)(B:List GExpr)(C D:List GStmt)(E:Int)(H:c8)(J:Int)(K:c8)(L:Int)(O:List c8)(Q:List GExpr)(R:Int):St:=⟨48,[(1,.box 1001 0),(6,.box 1006 0),(25,.v (.sl τ9) a),(26,.v τ2 b),(27,.v τ2 c),(35,.v (.sl τ9) e),(36,.v τ2 g),(37,.v τ2 R)],[(1001,.cells [.v τ2 l,.v .str m,.v .str o,.v V6 p,.v (.sl τ9) q,.v τ2 r,.v .str t,.v τ2 u,.v V6 w,.v (.sl τ4) B,.v τ6 C,.v τ6 D,.v τ2 E]),(1006,.cells [.v .str H,.v τ2 J,.v .str K,.v τ2 L,.v V6 O,.v (.sl τ4) Q])]⟩
def a38(a:List (c8×GExpr))(b c:Int)(_D:List (c8×GExpr))(_E e:Int)(g l:c8)(m:List c8)(o:List (c8×GExpr))(p:Int)(q:c8)(r:Int)(t:List c8)(u:List GExpr)(w B:List GStmt)(C:Int)(_H:c8)(_J:Int)(_K:c8)(_L:Int)(_O:List c8)(_Q:List GExpr):St:=⟨48,[(1,.box 1001 0),(25,.v (.sl τ9) a),(26,.v τ2 b),(27,.v τ2 c)],[(1001,.cells [.v τ2 e,.v .str g,.v .str l,.v V6 m,.v (.sl τ9) o,.v τ2 p,.v .str q,.v τ2 r,.v V6 t,.v (.sl τ4) u,.v τ6 w,.v τ6 B,.v τ2 C])]⟩
def d0T(e:List (c8×GExpr))(g l:Int)(a:List (c8×GExpr))(b m:Int)(o p:c8)(q:List c8)(r:List (c8×GExpr))(t:Int)(u:c8)(v:Int)(w:List c8)(B:List GExpr)(C D:List GStmt)(E:Int)(c:c8)(H:Int)(J:c8)(K:Int)(L:List c8)(O:List GExpr)(Q:Int)(k:Ex->St->Option Bool):Option Bool:=b4X N a b c (k (.exit 4) (a38 e g l a b m o p q r t u v w B C D E c H J K L O)) N Q
abbrev c09:FV a6v->HV a6u->(Ex->St->Option Bool)->Option Bool:=fun x y k=>d0T N x.2.2.1 x.2.2.2.1 x.2.2.2.2.1 x.2.2.2.2.2.1 x.2.2.2.2.2.2.1 y.1.1 y.1.2.1 y.1.2.2.1 y.1.2.2.2.1 y.1.2.2.2.2.1 y.1.2.2.2.2.2.1 y.1.2.2.2.2.2.2.1 y.1.2.2.2.2.2.2.2.1 y.1.2.2.2.2.2.2.2.2.1 y.1.2.2.2.2.2.2.2.2.2.1 y.1.2.2.2.2.2.2.2.2.2.2.1 y.1.2.2.2.2.2.2.2.2.2.2.2.1 y.1.2.2.2.2.2.2.2.2.2.2.2.2.1 y.2.1.1 y.2.1.2.1 y.2.1.2.2.1 y.2.1.2.2.2.1 y.2.1.2.2.2.2.1 y.2.1.2.2.2.2.2.1 x.2.2.2.2.2.2.2.1 k
abbrev a6t:List (Nat×Sl):=[(1,.box 1001 0),(25,.v (.sl τ9)),(26,V0),(27,V0)]
abbrev a6s:List (Nat×Sb):=[(1001,.cells [V0,V1,V1,V4,.v (.sl τ9),V0,V1,V0,V4,.v (.sl τ4),.v τ6,.v τ6,V0])]
def b1M(a:List (c8×GExpr))(b c:Int)(e g:c8)(l:List c8)(m:List (c8×GExpr))(o:Int)(p:c8)(q:Int)(r:List c8)(t:List GExpr)(u w:List GStmt)(B C:Int):St:=⟨48,[(1,.box 1001 0),(25,.v (.sl τ9) a),(26,.v τ2 b),(27,.v τ2 C)],[(1001,.cells [.v τ2 c,.v .str e,.v .str g,.v V6 l,.v (.sl τ9) m,.v τ2 o,.v .str p,.v τ2 q,.v V6 r,.v (.sl τ4) t,.v τ6 u,.v τ6 w,.v τ2 B])]⟩
def a34(_a:List (c8×GExpr))(_b _c:Int)(_e _g:c8)(_l:List c8)(_m:List (c8×GExpr))(_o:Int)(_p:c8)(_q:Int)(_r:List c8)(_t:List GExpr)(_u _v:List GStmt)(_w:Int):St:=⟨48,[],[]⟩
def d0S(a:List (c8×GExpr))(b e:Int)(g l:c8)(m:List c8)(c:List (c8×GExpr))(o:Int)(p:c8)(q:Int)(r:List c8)(t:List GExpr)(u v:List GStmt)(w B:Int)(k:Ex->St->Option Bool):Option Bool:=b4W N a b c (k (.exit 2) (a34 a b e g l m c o p q r t u v w)) N B
abbrev c07:FV a6t->HV a6s->(Ex->St->Option Bool)->Option Bool:=fun x y k=>d0S N x.2.1 x.2.2.1 y.1.1 y.1.2.1 y.1.2.2.1 y.1.2.2.2.1 y.1.2.2.2.2.1 y.1.2.2.2.2.2.1 y.1.2.2.2.2.2.2.1 y.1.2.2.2.2.2.2.2.1 y.1.2.2.2.2.2.2.2.2.1 y.1.2.2.2.2.2.2.2.2.2.1 y.1.2.2.2.2.2.2.2.2.2.2.1 y.1.2.2.2.2.2.2.2.2.2.2.2.1 y.1.2.2.2.2.2.2.2.2.2.2.2.2.1 x.2.2.2.1 k
def Y9:Nat->Code->St->(Ex->St->Option Bool)->Option Bool:=fun i c=>
 match i with
 |0=>(LPc 48 a6r a6q (c05 N) (fun st k=>iter (a18 0) (k6 (W1 N) N c 0) N st k))
 |2=>(LPc 48 a6t a6s (c07 N) (fun st k=>iter (a18 2) (k6 (W1 N) N c 2) N st k))
 |4=>(LPc 48 a6v a6u (c09 N) (fun st k=>iter (a18 4) (k6 (W1 N) N c 4) N st k))
 |i=>fun st k=>iter (a18 i) (k6 (W1 N) N c i) N st k
theorem c1a(g:List (c8×GExpr))(l m:Int)(a:List (c8×GExpr))(b o:Int)(p q:c8)(r:List c8)(t:List (c8×GExpr))(u:Int)(v:c8)(w:Int)(B:List c8)(C:List GExpr)(D E:List GStmt)(H:Int)(c:c8)(J:Int)(K:c8)(L:Int)(O:List c8)(Q:List GExpr)(KX:Nat->St->Option Bool)(I:St->Option Bool)(e:Int):
  k7 (Y9 N) (W1 N) a8u 4 (b1N g l m a b o p q r t u v w B C D E H c J K L O Q e) (p6 (a18 4) I KX (a0v N))=a9m N a b c (KX 4 (a38 g l m a b o p q r t u v w B C D E H c J K L O Q)) (fun e=>I (b1N g l m a b o p q r t u v w B C D E H c J K L O Q e)) e:=by kernel_rfl
theorem c75:∀x y k,(∀st,k .ret st=(a0v N) st)->iter (a18 4) (k6 (W1 N) N a8u 4) N ⟨48,Y7 a6v x,Y8 a6u y⟩ k=c09 N x y k:=fun x y k hk=>
 j9 (S:=(Int)×Unit) (a18 4) _ (k7 (Y9 N) (W1 N) a8u 4) (a0v N) (k9 _ _ N _ a8u 4 (show LoopsOk (Y9 N) (W1 N) N (a0v N) []from trivial)) (fun s=>b1N x.2.2.1 x.2.2.2.1 x.2.2.2.2.1 x.2.2.2.2.2.1 x.2.2.2.2.2.2.1 y.1.1 y.1.2.1 y.1.2.2.1 y.1.2.2.2.1 y.1.2.2.2.2.1 y.1.2.2.2.2.2.1 y.1.2.2.2.2.2.2.1 y.1.2.2.2.2.2.2.2.1 y.1.2.2.2.2.2.2.2.2.1 y.1.2.2.2.2.2.2.2.2.2.1 y.1.2.2.2.2.2.2.2.2.2.2.1 y.1.2.2.2.2.2.2.2.2.2.2.2.1 y.1.2.2.2.2.2.2.2.2.2.2.2.2.1 y.2.1.1 y.2.1.2.1 y.2.1.2.2.1 y.2.1.2.2.2.1 y.2.1.2.2.2.2.1 y.2.1.2.2.2.2.2.1 s.1) k hk
  (fun self s=>a9m N x.2.2.2.2.2.1 x.2.2.2.2.2.2.1 y.2.1.1 (k (.exit 4) (a38 x.2.2.1 x.2.2.2.1 x.2.2.2.2.1 x.2.2.2.2.2.1 x.2.2.2.2.2.2.1 y.1.1 y.1.2.1 y.1.2.2.1 y.1.2.2.2.1 y.1.2.2.2.2.1 y.1.2.2.2.2.2.1 y.1.2.2.2.2.2.2.1 y.1.2.2.2.2.2.2.2.1 y.1.2.2.2.2.2.2.2.2.1 y.1.2.2.2.2.2.2.2.2.2.1 y.1.2.2.2.2.2.2.2.2.2.2.1 y.1.2.2.2.2.2.2.2.2.2.2.2.1 y.1.2.2.2.2.2.2.2.2.2.2.2.2.1 y.2.1.1 y.2.1.2.1 y.2.1.2.2.1 y.2.1.2.2.2.1 y.2.1.2.2.2.2.1 y.2.1.2.2.2.2.2.1)) (fun a=>self (a,())) s.1) (fun n s=>b4X N x.2.2.2.2.2.1 x.2.2.2.2.2.2.1 y.2.1.1 (k (.exit 4) (a38 x.2.2.1 x.2.2.2.1 x.2.2.2.2.1 x.2.2.2.2.2.1 x.2.2.2.2.2.2.1 y.1.1 y.1.2.1 y.1.2.2.1 y.1.2.2.2.1 y.1.2.2.2.2.1 y.1.2.2.2.2.2.1 y.1.2.2.2.2.2.2.1 y.1.2.2.2.2.2.2.2.1 y.1.2.2.2.2.2.2.2.2.1 y.1.2.2.2.2.2.2.2.2.2.1 y.1.2.2.2.2.2.2.2.2.2.2.1 y.1.2.2.2.2.2.2.2.2.2.2.2.1 y.1.2.2.2.2.2.2.2.2.2.2.2.2.1 y.2.1.1 y.2.1.2.1 y.2.1.2.2.1 y.2.1.2.2.2.1 y.2.1.2.2.2.2.1 y.2.1.2.2.2.2.2.1)) n s.1) (fun _=>rfl) (fun _ _=>rfl)
  (fun I s=>c1a N x.2.2.1 x.2.2.2.1 x.2.2.2.2.1 x.2.2.2.2.2.1 x.2.2.2.2.2.2.1 y.1.1 y.1.2.1 y.1.2.2.1 y.1.2.2.2.1 y.1.2.2.2.2.1 y.1.2.2.2.2.2.1 y.1.2.2.2.2.2.2.1 y.1.2.2.2.2.2.2.2.1 y.1.2.2.2.2.2.2.2.2.1 y.1.2.2.2.2.2.2.2.2.2.1 y.1.2.2.2.2.2.2.2.2.2.2.1 y.1.2.2.2.2.2.2.2.2.2.2.2.1 y.1.2.2.2.2.2.2.2.2.2.2.2.2.1 y.2.1.1 y.2.1.2.1 y.2.1.2.2.1 y.2.1.2.2.2.1 y.2.1.2.2.2.2.1 y.2.1.2.2.2.2.2.1 (fun j=>k (.exit j)) I s.1) N (x.2.2.2.2.2.2.2.1,())
theorem c5H:F7 (Y9 N) (W1 N) N (a0v N) 4 a8u:=fun st k hk=>p8 48 a6v a6u _ _ (a0v N) (c75 N) _ st k hk (rfl)
theorem c08(a:List (c8×GExpr))(b g:Int)(l m:c8)(o:List c8)(c:List (c8×GExpr))(p:Int)(q:c8)(r:Int)(t:List c8)(u:List GExpr)(v w:List GStmt)(B:Int)(KX:Nat->St->Option Bool)(I:St->Option Bool)(e:Int):
  k7 (Y9 N) (W1 N) b1O 2 (b1M a b g l m o c p q r t u v w B e) (p6 (a18 2) I KX (a0v N))=a9l N a b c (KX 2 (a34 a b g l m o c p q r t u v w B)) (fun e=>I (b1M a b g l m o c p q r t u v w B e)) e:=by kernel_rfl
theorem c74:∀x y k,(∀st,k .ret st=(a0v N) st)->iter (a18 2) (k6 (W1 N) N b1O 2) N ⟨48,Y7 a6t x,Y8 a6s y⟩ k=c07 N x y k:=fun x y k hk=>
 j9 (S:=(Int)×Unit) (a18 2) _ (k7 (Y9 N) (W1 N) b1O 2) (a0v N) (k9 _ _ N _ b1O 2 (show LoopsOk (Y9 N) (W1 N) N (a0v N) [(4,a8u)]from⟨c5H N,trivial⟩)) (fun s=>b1M x.2.1 x.2.2.1 y.1.1 y.1.2.1 y.1.2.2.1 y.1.2.2.2.1 y.1.2.2.2.2.1 y.1.2.2.2.2.2.1 y.1.2.2.2.2.2.2.1 y.1.2.2.2.2.2.2.2.1 y.1.2.2.2.2.2.2.2.2.1 y.1.2.2.2.2.2.2.2.2.2.1 y.1.2.2.2.2.2.2.2.2.2.2.1 y.1.2.2.2.2.2.2.2.2.2.2.2.1 y.1.2.2.2.2.2.2.2.2.2.2.2.2.1 s.1) k hk
  (fun self s=>a9l N x.2.1 x.2.2.1 y.1.2.2.2.2.1 (k (.exit 2) (a34 x.2.1 x.2.2.1 y.1.1 y.1.2.1 y.1.2.2.1 y.1.2.2.2.1 y.1.2.2.2.2.1 y.1.2.2.2.2.2.1 y.1.2.2.2.2.2.2.1 y.1.2.2.2.2.2.2.2.1 y.1.2.2.2.2.2.2.2.2.1 y.1.2.2.2.2.2.2.2.2.2.1 y.1.2.2.2.2.2.2.2.2.2.2.1 y.1.2.2.2.2.2.2.2.2.2.2.2.1 y.1.2.2.2.2.2.2.2.2.2.2.2.2.1)) (fun a=>self (a,())) s.1) (fun n s=>b4W N x.2.1 x.2.2.1 y.1.2.2.2.2.1 (k (.exit 2) (a34 x.2.1 x.2.2.1 y.1.1 y.1.2.1 y.1.2.2.1 y.1.2.2.2.1 y.1.2.2.2.2.1 y.1.2.2.2.2.2.1 y.1.2.2.2.2.2.2.1 y.1.2.2.2.2.2.2.2.1 y.1.2.2.2.2.2.2.2.2.1 y.1.2.2.2.2.2.2.2.2.2.1 y.1.2.2.2.2.2.2.2.2.2.2.1 y.1.2.2.2.2.2.2.2.2.2.2.2.1 y.1.2.2.2.2.2.2.2.2.2.2.2.2.1)) n s.1) (fun _=>rfl) (fun _ _=>rfl)
  (fun I s=>c08 N x.2.1 x.2.2.1 y.1.1 y.1.2.1 y.1.2.2.1 y.1.2.2.2.1 y.1.2.2.2.2.1 y.1.2.2.2.2.2.1 y.1.2.2.2.2.2.2.1 y.1.2.2.2.2.2.2.2.1 y.1.2.2.2.2.2.2.2.2.1 y.1.2.2.2.2.2.2.2.2.2.1 y.1.2.2.2.2.2.2.2.2.2.2.1 y.1.2.2.2.2.2.2.2.2.2.2.2.1 y.1.2.2.2.2.2.2.2.2.2.2.2.2.1 (fun j=>k (.exit j)) I s.1) N (x.2.2.2.1,())
theorem d6z:F7 (Y9 N) (W1 N) N (a0v N) 2 b1O:=fun st k hk=>p8 48 a6t a6s _ _ (a0v N) (c74 N) _ st k hk (rfl)
theorem c06(a:List c8)(b g:Int)(l m:c8)(c:List c8)(o:List (c8×GExpr))(p:Int)(q:c8)(r:Int)(t:List c8)(u:List GExpr)(v w:List GStmt)(B:Int)(KX:Nat->St->Option Bool)(I:St->Option Bool)(e:Int):
  k7 (Y9 N) (W1 N) b1P 0 (b1L a b g l m c o p q r t u v w B e) (p6 (a18 0) I KX (a0v N))=a9k N a b c (KX 0 (a33 a b g l m c o p q r t u v w B)) (fun e=>I (b1L a b g l m c o p q r t u v w B e)) e:=by kernel_rfl
theorem c73:∀x y k,(∀st,k .ret st=(a0v N) st)->iter (a18 0) (k6 (W1 N) N b1P 0) N ⟨48,Y7 a6r x,Y8 a6q y⟩ k=c05 N x y k:=fun x y k hk=>
 j9 (S:=(Int)×Unit) (a18 0) _ (k7 (Y9 N) (W1 N) b1P 0) (a0v N) (k9 _ _ N _ b1P 0 (show LoopsOk (Y9 N) (W1 N) N (a0v N) []from trivial)) (fun s=>b1L x.2.1 x.2.2.1 y.1.1 y.1.2.1 y.1.2.2.1 y.1.2.2.2.1 y.1.2.2.2.2.1 y.1.2.2.2.2.2.1 y.1.2.2.2.2.2.2.1 y.1.2.2.2.2.2.2.2.1 y.1.2.2.2.2.2.2.2.2.1 y.1.2.2.2.2.2.2.2.2.2.1 y.1.2.2.2.2.2.2.2.2.2.2.1 y.1.2.2.2.2.2.2.2.2.2.2.2.1 y.1.2.2.2.2.2.2.2.2.2.2.2.2.1 s.1) k hk
  (fun self s=>a9k N x.2.1 x.2.2.1 y.1.2.2.2.1 (k (.exit 0) (a33 x.2.1 x.2.2.1 y.1.1 y.1.2.1 y.1.2.2.1 y.1.2.2.2.1 y.1.2.2.2.2.1 y.1.2.2.2.2.2.1 y.1.2.2.2.2.2.2.1 y.1.2.2.2.2.2.2.2.1 y.1.2.2.2.2.2.2.2.2.1 y.1.2.2.2.2.2.2.2.2.2.1 y.1.2.2.2.2.2.2.2.2.2.2.1 y.1.2.2.2.2.2.2.2.2.2.2.2.1 y.1.2.2.2.2.2.2.2.2.2.2.2.2.1)) (fun a=>self (a,())) s.1) (fun n s=>b4V N x.2.1 x.2.2.1 y.1.2.2.2.1 (k (.exit 0) (a33 x.2.1 x.2.2.1 y.1.1 y.1.2.1 y.1.2.2.1 y.1.2.2.2.1 y.1.2.2.2.2.1 y.1.2.2.2.2.2.1 y.1.2.2.2.2.2.2.1 y.1.2.2.2.2.2.2.2.1 y.1.2.2.2.2.2.2.2.2.1 y.1.2.2.2.2.2.2.2.2.2.1 y.1.2.2.2.2.2.2.2.2.2.2.1 y.1.2.2.2.2.2.2.2.2.2.2.2.1 y.1.2.2.2.2.2.2.2.2.2.2.2.2.1)) n s.1) (fun _=>rfl) (fun _ _=>rfl)
  (fun I s=>c06 N x.2.1 x.2.2.1 y.1.1 y.1.2.1 y.1.2.2.1 y.1.2.2.2.1 y.1.2.2.2.2.1 y.1.2.2.2.2.2.1 y.1.2.2.2.2.2.2.1 y.1.2.2.2.2.2.2.2.1 y.1.2.2.2.2.2.2.2.2.1 y.1.2.2.2.2.2.2.2.2.2.1 y.1.2.2.2.2.2.2.2.2.2.2.1 y.1.2.2.2.2.2.2.2.2.2.2.2.1 y.1.2.2.2.2.2.2.2.2.2.2.2.2.1 (fun j=>k (.exit j)) I s.1) N (x.2.2.2.1,())
theorem d6y:F7 (Y9 N) (W1 N) N (a0v N) 0 b1P:=fun st k hk=>p8 48 a6r a6q _ _ (a0v N) (c73 N) _ st k hk (rfl)
theorem d0U(x:SV [.v τ16])(y:BV []):F5 (W1 N) Tryz.f154 (c1b N) c3w (Y9 N) x y=a1s N x.1:=by kernel_rfl
theorem c77:P7 154 (c1b N):=
 a2A (EnvOk.jk (y6 a18 (c3v N) _ _ (c76 N)) _) Tryz.func154 rfl Tryz.call154 (c1b N) c3w (fun _ _=>rfl) N (Y9 N) (show LoopsOk (Y9 N) (W1 N) N (a0v N) [(0,b1P),(2,b1O),(4,a8u)]from⟨d6y N,d6z N,c5H N,trivial⟩) (d0U N)
def a9j(b:List c8)(c:Int)(k0:Option Bool)(self:ρ29)(a:Int):Option Bool:=br (decide (a<c)) (f5 (l6 b a) fun e=>f5 (N9 N e) fun g=>br (!g) (some false) (self (IntKind.i64.wrap (a+1)))) (k0)
def a5q(N:Nat)(a:List c8)(b:Int)(k0:Option Bool):Nat->Int->Option Bool|0,_=>none|n+1,c=>a9j N a b k0 (a5q N a b k0 n) c
def N8(a:GExpr):Option Bool:=f5 (br (!(a.text==[])) (br (a.kind !=1) (br (a.kind !=3) (some true) (f5 (N9 N a.text) fun b=>some (!b))) (f5 (N9 N a.text) fun c=>some (!c))) (f5 (N9 N a.text) fun e=>some (!e))) fun g=>br (g) (some false) (f5 (br (a.number !=0) (br (a.kind !=2) (some true) (f5 (Z6 N a.number 0 999999999) fun l=>some (!l))) (f5 (Z6 N a.number 0 999999999) fun m=>some (!m))) fun o=>br (o) (some false) (a5q N a.keys (a.keys.length:Int) (br (a.kind==1) (f5 (br ((a.kids.length:Int)==0) (some ((a.keys.length:Int)==0)) (some false)) fun p=>some p) (br (a.kind==2) (f5 (br ((a.kids.length:Int)==0) (some ((a.keys.length:Int)==0)) (some false)) fun q=>some q) (br (a.kind==3) (f5 (br ((a.kids.length:Int)==0) (some ((a.keys.length:Int)==0)) (some false)) fun r=>some r) (br (a.kind==4) (some ((a.keys.length:Int)==0)) (br (a.kind==6) (f5 (br ((a.keys.length:Int)==(a.kids.length:Int)) (some (decide ((a.keys.length:Int)>0))) (some false)) fun t=>some t) (f5 (br ((a.kids.length:Int)==2) (some ((a.keys.length:Int)==0)) (some false)) fun u=>some u)))))) N 0))
abbrev d9V:=P4 [.v τ4] [] [V2] [] (Bool) fun z=>((z,()),())
abbrev c04:AF:=d9V fun x _=>N8 N x.1
abbrev c3u:SV [V2]->BV []->Bool:=fun x _=>x.1
def c3t:FuncId->Option Tmp->Option AF:=fun f _=>O5 [(192,c5K N),(195,b72 N)] f
theorem c71:I8 (c3t N):=fun _ _ _ h=>o6 h (v8 (b76 N) (v8 (b74 N) G7))
def b4U:Nat->Hint:=fun i=>
 match i with
 |0=>⟨[],[1,39,40,41],[1001],[1],[1001],[]⟩
 |_=>o3
abbrev a7J:Env:=S9 b4U (c3t N) FF FF |>.jk (fun i=>match i with|1=>some 23|3=>some 37|15=>some 2|19=>some 2|20=>some 2|_=>none)
noncomputable abbrev b1K:Code:=V7 (m9 Tryz.f196) [true,true,true,false,true,false,false]
abbrev b4T:=A8 (a7J N) Tryz.f196 (c04 N) c3u
abbrev a6p:List (Nat×Sl):=[(1,.box 1001 0),(39,V4),(40,V0),(41,V0)]
abbrev a6o:List (Nat×Sb):=[(1001,.cells [V0,V1,V0,V4,.v (.sl τ4)])]
def b1J(a:List c8)(b c:Int)(e:c8)(g:Int)(l:List c8)(m:List GExpr)(o:Int):St:=⟨96,[(1,.box 1001 0),(39,.v V6 a),(40,.v τ2 b),(41,.v τ2 o)],[(1001,.cells [.v τ2 c,.v .str e,.v τ2 g,.v V6 l,.v (.sl τ4) m])]⟩
def a30(_l:List c8)(_m a:Int)(b:c8)(c:Int)(e:List c8)(g:List GExpr):St:=⟨96,[(1,.box 1001 0)],[(1001,.cells [.v τ2 a,.v .str b,.v τ2 c,.v V6 e,.v (.sl τ4) g])]⟩
def d0L(a:List c8)(b c:Int)(e:c8)(g:Int)(l:List c8)(m:List GExpr)(o:Int)(k:Ex->St->Option Bool):Option Bool:=a5q N a b (k (.exit 0) (a30 a b c e g l m)) N o
abbrev c02:FV a6p->HV a6o->(Ex->St->Option Bool)->Option Bool:=fun x y k=>d0L N x.2.1 x.2.2.1 y.1.1 y.1.2.1 y.1.2.2.1 y.1.2.2.2.1 y.1.2.2.2.2.1 x.2.2.2.1 k
def a8t:Nat->Code->St->(Ex->St->Option Bool)->Option Bool:=fun i c=>
 match i with
 |0=>(LPc 96 a6p a6o (c02 N) (fun st k=>iter (b4U 0) (k6 (a7J N) N c 0) N st k))
 |i=>fun st k=>iter (b4U i) (k6 (a7J N) N c i) N st k
theorem c03(a:List c8)(b e:Int)(g:c8)(l:Int)(m:List c8)(o:List GExpr)(KX:Nat->St->Option Bool)(I:St->Option Bool)(c:Int):
  k7 (a8t N) (a7J N) b1K 0 (b1J a b e g l m o c) (p6 (b4U 0) I KX (b4T N))=a9j N a b (KX 0 (a30 a b e g l m o)) (fun c=>I (b1J a b e g l m o c)) c:=by kernel_rfl
theorem c70:∀x y k,(∀st,k .ret st=(b4T N) st)->iter (b4U 0) (k6 (a7J N) N b1K 0) N ⟨96,Y7 a6p x,Y8 a6o y⟩ k=c02 N x y k:=fun x y k hk=>
 j9 (S:=(Int)×Unit) (b4U 0) _ (k7 (a8t N) (a7J N) b1K 0) (b4T N) (k9 _ _ N _ b1K 0 (show LoopsOk (a8t N) (a7J N) N (b4T N) []from trivial)) (fun s=>b1J x.2.1 x.2.2.1 y.1.1 y.1.2.1 y.1.2.2.1 y.1.2.2.2.1 y.1.2.2.2.2.1 s.1) k hk
  (fun self s=>a9j N x.2.1 x.2.2.1 (k (.exit 0) (a30 x.2.1 x.2.2.1 y.1.1 y.1.2.1 y.1.2.2.1 y.1.2.2.2.1 y.1.2.2.2.2.1)) (fun a=>self (a,())) s.1) (fun n s=>a5q N x.2.1 x.2.2.1 (k (.exit 0) (a30 x.2.1 x.2.2.1 y.1.1 y.1.2.1 y.1.2.2.1 y.1.2.2.2.1 y.1.2.2.2.2.1)) n s.1) (fun _=>rfl) (fun _ _=>rfl)
  (fun I s=>c03 N x.2.1 x.2.2.1 y.1.1 y.1.2.1 y.1.2.2.1 y.1.2.2.2.1 y.1.2.2.2.2.1 (fun j=>k (.exit j)) I s.1) N (x.2.2.2.1,())
theorem d6x:F7 (a8t N) (a7J N) N (b4T N) 0 b1K:=fun st k hk=>p8 96 a6p a6o _ _ (b4T N) (c70 N) _ st k hk (rfl)
theorem d0M(x:SV [.v τ4])(y:BV []):F5 (a7J N) Tryz.f196 (c04 N) c3u (a8t N) x y=N8 N x.1:=by kernel_rfl
theorem c72:P7 196 (c04 N):=
 a2A (EnvOk.jk (y6 b4U (c3t N) _ _ (c71 N)) _) Tryz.func196 rfl Tryz.call196 (c04 N) c3u (fun _ _=>rfl) N (a8t N) (show LoopsOk (a8t N) (a7J N) N (b4T N) [(0,b1K)]from⟨d6x N,trivial⟩) (d0M N)
def a0j(_N:Nat)(a:GExpr)(c:Int):Option Bool:=f5 (l6 a.kids c) fun b=>f5 (br (a.kind==7) (br (b.kind==8) (some true) (br (a.kind==7) (br (c==1) (some (b.kind==7)) (some false)) (some false))) (br (a.kind==8) (br (b.kind==8) (some true) (br (a.kind==7) (br (c==1) (some (b.kind==7)) (some false)) (some false))) (br (a.kind==7) (br (c==1) (some (b.kind==7)) (some false)) (some false)))) fun e=>some e
abbrev e3T:=P4 [.v τ4,V0] [] [V2] [] (Bool) fun z=>((z,()),())
abbrev e1g:AF:=e3T fun x _=>a0j N x.1 x.2.1
def d5r(_N:Nat):FuncId->Option Tmp->Option AF:=fun f _=>O5 [] f
theorem d5s:I8 (d5r N):=fun _ _ _ h=>o6 h G7
def e3S:Nat->Hint:=fun i=>
 match i with
 |_=>o3
abbrev e5v:Env:=S9 e3S (d5r N) FF FF |>.jk (fun i=>match i with|2=>some 4|_=>none)
theorem d5t:P7 197 (e1g N):=
 a1W (e5v N) (EnvOk.jk (y6 e3S (d5r N) _ _ (d5s N)) _) Tryz.func197 rfl Tryz.call197 (e1g N) (fun x _=>x.1) (fun _ _=>rfl) N (fun _ _=>by kernel_rfl) rfl
abbrev c1Z:=P4 [.v τ4,V0] [] [V0] [] (Int) fun z=>((z,()),())
def b6j(c9:ρ25)(b:List c8)(c:Int)(e:List c8)(k0:Option Int)(self:ρ30)(a:Int):Option Int:=br (decide (a<c)) (f5 (l6 b a) fun g=>f5 (slc e 0 a) fun l=>f5 (m8 N l g) fun m=>br (m) (some (7:Int)) (self (IntKind.i64.wrap (a+1)))) (k0)
def b2L(N:Nat)(c9:ρ25)(a:List c8)(b:Int)(c:List c8)(k0:Option Int):Nat->Int->Option Int|0,_=>none|n+1,e=>b6j N c9 a b c k0 (b2L N c9 a b c k0 n) e
def a4l(c9:ρ25)(c:Int)(l:List GExpr)(m o:Int)(p:c8)(q:Int)(r:List c8)(t:List GExpr)(k2:Option Int)(self:ρ30)(b:Int):Option Int:=br (decide (b<m)) (f5 (l6 l b) fun a=>f5 (a0j N (GExpr.mk o p q r t) b) fun u=>br (u) (f5 (c9 (GExpr.mk a.kind a.text a.number a.keys a.kids) (IntKind.i64.wrap (c+1))) fun e=>br (e !=0) (some e) (self (IntKind.i64.wrap (b+1)))) (f5 (c9 (GExpr.mk a.kind a.text a.number a.keys a.kids) c) fun g=>br (g !=0) (some g) (self (IntKind.i64.wrap (b+1))))) (k2)
def a4z(N:Nat)(c9:ρ25)(a:Int)(b:List GExpr)(c e:Int)(g:c8)(l:Int)(m:List c8)(o:List GExpr)(k2:Option Int):Nat->Int->Option Int|0,_=>none|n+1,p=>a4l N c9 a b c e g l m o k2 (a4z N c9 a b c e g l m o k2 n) p
def m7(c9:ρ25)(a:GExpr)(b:Int):Option Int:=br (decide (b>=30)) (some (2:Int)) (f5 (br (decide (a.kind<1)) (some true) (some (decide (a.kind>8)))) fun c=>br (c) (some (4:Int)) (f5 (br (a.kind==3) (f5 (N7 N a.text) fun e=>some (!e)) (some false)) fun g=>br (g) (some (5:Int)) (f5 (N8 N (GExpr.mk a.kind a.text a.number a.keys a.kids)) fun l=>br (!l) (some (3:Int)) (b2L N c9 a.keys (a.keys.length:Int) a.keys (br (a.kind==7) (a4z N c9 b a.kids (a.kids.length:Int) a.kind a.text a.number a.keys a.kids (some (0:Int)) N 0) (a4z N c9 (IntKind.i64.wrap (b+1)) a.kids (a.kids.length:Int) a.kind a.text a.number a.keys a.kids (some (0:Int)) N 0)) N 0))))
abbrev e3A:=P4 [.v τ4,V0] [] [V0] [] (Int) fun z=>((z,()),())
abbrev d7R(c9:ρ25):AF:=e3A fun x _=>m7 N c9 x.1 x.2.1
abbrev d4S:SV [V0]->BV []->Int:=fun x _=>x.1
def d4Q(c9:ρ25):FuncId->Option Tmp->Option AF:=fun f _=>O5 [(149,b41 N),(155,c1Z fun x _=>c9 x.1 x.2.1),(178,z4g N),(196,c04 N),(197,e1g N)] f
theorem d4R(c9:ρ25)(a0G:Sound Tryz.prog GW B7 155 (c1Z fun x y=>c9 x.1 x.2.1)):∀f q F,d4Q N c9 f q=some F->Sound Tryz.prog GW B7 f F:=fun _ _ _ h=>o6 h (v8 (b1S N) (v8 (a0G) (v8 (b3e N) (v8 (c72 N) (v8 (d5t N) G7)))))
def b6m:Nat->Hint:=fun i=>
 match i with
 |0=>⟨[],[1,2,35,36,37],[1002],[1,2],[1002],[]⟩
 |2=>⟨[],[2,7,56,57,58],[1002],[],[],[]⟩
 |_=>o3
abbrev a7n(c9:ρ25):Env:=S9 b6m (d4Q N c9) (fun _=>false) (fun _=>false) |>.jk (fun i=>match i with|3=>some 21|5=>some 30|_=>none)
abbrev b2d(c9:ρ25):=A8 (a7n N c9) Tryz.f155 (d7R N c9) d4S
noncomputable abbrev b8w:Code:=V7 (m9 Tryz.f155) [true,true,true,true,true,false,true,false,false]
noncomputable abbrev b8v:Code:=V7 (m9 Tryz.f155) [true,true,true,true,true,true,true,true,false,true,false,false]
abbrev b0m:List (Nat×Sl):=[(1,V0),(2,.box 1002 0),(35,V4),(36,V0),(37,V0)]
abbrev b0l:List (Nat×Sb):=[(1002,.cells [V0,V1,V0,V4,.v (.sl τ4)])]
def b6k(a:Int)(b:List c8)(c e:Int)(g:c8)(l:Int)(m:List c8)(o:List GExpr)(p:Int):St:=⟨76,[(1,.v τ2 a),(2,.box 1002 0),(35,.v V6 b),(36,.v τ2 c),(37,.v τ2 p)],[(1002,.cells [.v τ2 e,.v .str g,.v τ2 l,.v V6 m,.v (.sl τ4) o])]⟩
def a7a(a:Int)(_m:List c8)(_o b:Int)(c:c8)(e:Int)(g:List c8)(l:List GExpr):St:=⟨76,[(1,.v τ2 a),(2,.box 1002 0)],[(1002,.cells [.v τ2 b,.v .str c,.v τ2 e,.v V6 g,.v (.sl τ4) l])]⟩
def d7O(c9:ρ25)(e:Int)(a:List c8)(b g:Int)(l:c8)(m:Int)(c:List c8)(o:List GExpr)(p:Int)(k:Ex->St->Option Int):Option Int:=b2L N c9 a b c (k (.exit 0) (a7a e a b g l m c o)) N p
abbrev c6w(c9:ρ25):FV b0m->HV b0l->(Ex->St->Option Int)->Option Int:=fun x y k=>d7O N c9 x.1 x.2.2.1 x.2.2.2.1 y.1.1 y.1.2.1 y.1.2.2.1 y.1.2.2.2.1 y.1.2.2.2.2.1 x.2.2.2.2.1 k
abbrev b0o:List (Nat×Sl):=[(2,.box 1002 0),(7,V0),(56,.v (.sl τ4)),(57,V0),(58,V0)]
abbrev b0n:List (Nat×Sb):=[(1002,.cells [V0,V1,V0,V4,.v (.sl τ4)])]
def b6l(a:Int)(b:List GExpr)(c e:Int)(g:c8)(l:Int)(m:List c8)(o:List GExpr)(p:Int):St:=⟨76,[(2,.box 1002 0),(7,.v τ2 a),(56,.v (.sl τ4) b),(57,.v τ2 c),(58,.v τ2 p)],[(1002,.cells [.v τ2 e,.v .str g,.v τ2 l,.v V6 m,.v (.sl τ4) o])]⟩
def a7b(_a:Int)(_b:List GExpr)(_c _e:Int)(_g:c8)(_l:Int)(_m:List c8)(_o:List GExpr):St:=⟨76,[],[]⟩
def d7P(c9:ρ25)(a:Int)(b:List GExpr)(c e:Int)(g:c8)(l:Int)(m:List c8)(o:List GExpr)(p:Int)(k:Ex->St->Option Int):Option Int:=a4z N c9 a b c e g l m o (k (.exit 2) (a7b a b c e g l m o)) N p
abbrev c6x(c9:ρ25):FV b0o->HV b0n->(Ex->St->Option Int)->Option Int:=fun x y k=>d7P N c9 x.2.1 x.2.2.1 x.2.2.2.1 y.1.1 y.1.2.1 y.1.2.2.1 y.1.2.2.2.1 y.1.2.2.2.2.1 x.2.2.2.2.1 k
def a5v(c9:ρ25):Nat->Code->St->(Ex->St->Option Int)->Option Int:=fun i c=>
 match i with
 |0=>(LPc 76 b0m b0l (c6w N c9) (fun st k=>iter (b6m 0) (k6 (a7n N c9) N c 0) N st k))
 |2=>(LPc 76 b0o b0n (c6x N c9) (fun st k=>iter (b6m 2) (k6 (a7n N c9) N c 2) N st k))
 |i=>fun st k=>iter (b6m i) (k6 (a7n N c9) N c i) N st k
theorem c4E(c9:ρ25)(a:Int)(b:List GExpr)(c e:Int)(g:c8)(l:Int)(m:List c8)(o:List GExpr)(KX:Nat->St->Option Int)(I:St->Option Int)(p:Int):
  k7 (a5v N c9) (a7n N c9) b8v 2 (b6l a b c e g l m o p) (p6 (b6m 2) I KX (b2d N c9))=a4l N c9 a b c e g l m o (KX 2 (a7b a b c e g l m o)) (fun p=>I (b6l a b c e g l m o p)) p:=by kernel_rfl
theorem d4P(c9:ρ25):∀x y k,(∀st,k .ret st=(b2d N c9) st)->iter (b6m 2) (k6 (a7n N c9) N b8v 2) N ⟨76,Y7 b0o x,Y8 b0n y⟩ k=c6x N c9 x y k:=fun x y k hk=>
 j9 (S:=(Int)×Unit) (b6m 2) _ (k7 (a5v N c9) (a7n N c9) b8v 2) (b2d N c9) (k9 _ _ N _ b8v 2 (show LoopsOk (a5v N c9) (a7n N c9) N (b2d N c9) []from trivial)) (fun s=>b6l x.2.1 x.2.2.1 x.2.2.2.1 y.1.1 y.1.2.1 y.1.2.2.1 y.1.2.2.2.1 y.1.2.2.2.2.1 s.1) k hk
  (fun self s=>a4l N c9 x.2.1 x.2.2.1 x.2.2.2.1 y.1.1 y.1.2.1 y.1.2.2.1 y.1.2.2.2.1 y.1.2.2.2.2.1 (k (.exit 2) (a7b x.2.1 x.2.2.1 x.2.2.2.1 y.1.1 y.1.2.1 y.1.2.2.1 y.1.2.2.2.1 y.1.2.2.2.2.1)) (fun a=>self (a,())) s.1) (fun n s=>a4z N c9 x.2.1 x.2.2.1 x.2.2.2.1 y.1.1 y.1.2.1 y.1.2.2.1 y.1.2.2.2.1 y.1.2.2.2.2.1 (k (.exit 2) (a7b x.2.1 x.2.2.1 x.2.2.2.1 y.1.1 y.1.2.1 y.1.2.2.1 y.1.2.2.2.1 y.1.2.2.2.2.1)) n s.1) (fun _=>rfl) (fun _ _=>rfl)
  (fun I s=>c4E N c9 x.2.1 x.2.2.1 x.2.2.2.1 y.1.1 y.1.2.1 y.1.2.2.1 y.1.2.2.2.1 y.1.2.2.2.2.1 (fun j=>k (.exit j)) I s.1) N (x.2.2.2.2.1,())
theorem e03(c9:ρ25):F7 (a5v N c9) (a7n N c9) N (b2d N c9) 2 b8v:=fun st k hk=>p8 76 b0o b0n _ _ (b2d N c9) (d4P N c9) _ st k hk (rfl)
theorem c4D(c9:ρ25)(g:Int)(a:List c8)(b l:Int)(m:c8)(o:Int)(c:List c8)(p:List GExpr)(KX:Nat->St->Option Int)(I:St->Option Int)(e:Int):
  k7 (a5v N c9) (a7n N c9) b8w 0 (b6k g a b l m o c p e) (p6 (b6m 0) I KX (b2d N c9))=b6j N c9 a b c (KX 0 (a7a g a b l m o c p)) (fun e=>I (b6k g a b l m o c p e)) e:=by kernel_rfl
theorem d4O(c9:ρ25):∀x y k,(∀st,k .ret st=(b2d N c9) st)->iter (b6m 0) (k6 (a7n N c9) N b8w 0) N ⟨76,Y7 b0m x,Y8 b0l y⟩ k=c6w N c9 x y k:=fun x y k hk=>
 j9 (S:=(Int)×Unit) (b6m 0) _ (k7 (a5v N c9) (a7n N c9) b8w 0) (b2d N c9) (k9 _ _ N _ b8w 0 (show LoopsOk (a5v N c9) (a7n N c9) N (b2d N c9) []from trivial)) (fun s=>b6k x.1 x.2.2.1 x.2.2.2.1 y.1.1 y.1.2.1 y.1.2.2.1 y.1.2.2.2.1 y.1.2.2.2.2.1 s.1) k hk
  (fun self s=>b6j N c9 x.2.2.1 x.2.2.2.1 y.1.2.2.2.1 (k (.exit 0) (a7a x.1 x.2.2.1 x.2.2.2.1 y.1.1 y.1.2.1 y.1.2.2.1 y.1.2.2.2.1 y.1.2.2.2.2.1)) (fun a=>self (a,())) s.1) (fun n s=>b2L N c9 x.2.2.1 x.2.2.2.1 y.1.2.2.2.1 (k (.exit 0) (a7a x.1 x.2.2.1 x.2.2.2.1 y.1.1 y.1.2.1 y.1.2.2.1 y.1.2.2.2.1 y.1.2.2.2.2.1)) n s.1) (fun _=>rfl) (fun _ _=>rfl)
  (fun I s=>c4D N c9 x.1 x.2.2.1 x.2.2.2.1 y.1.1 y.1.2.1 y.1.2.2.1 y.1.2.2.2.1 y.1.2.2.2.2.1 (fun j=>k (.exit j)) I s.1) N (x.2.2.2.2.1,())
theorem e02(c9:ρ25):F7 (a5v N c9) (a7n N c9) N (b2d N c9) 0 b8w:=fun st k hk=>p8 76 b0m b0l _ _ (b2d N c9) (d4O N c9) _ st k hk (rfl)
theorem d7Q(c9:ρ25)(x:SV [.v τ4,V0])(y:BV []):F5 (a7n N c9) Tryz.f155 (d7R N c9) d4S (a5v N c9) x y=m7 N c9 x.1 x.2.1:=by kernel_rfl
theorem d4T(c9:ρ25)(a0G:Sound Tryz.prog GW B7 155 (c1Z fun x y=>c9 x.1 x.2.1)):Sound Tryz.prog GW B7 155 (d7R N c9):=
 a2A (EnvOk.jk (y6 b6m (d4Q N c9) _ _ (d4R N c9 a0G)) _) Tryz.func155 rfl Tryz.call155 (d7R N c9) d4S (fun _ _=>rfl) N (a5v N c9) (show LoopsOk (a5v N c9) (a7n N c9) N (b2d N c9) [(0,b8w),(2,b8v)]from⟨e02 N c9,e03 N c9,trivial⟩) (d7Q N c9)
def w4(N:Nat):Nat->GExpr->Int->Option (Int)|0=>fun _ _=>none|d+1=>m7 N (w4 N d)
theorem c10(N:Nat):∀d,Sound Tryz.prog GW B7 155 (c1Z fun x y=>w4 N d x.1 x.2.1)
 |0=>Sound.never Tryz.call155 (fun _ _=>rfl)
 |d+1=>d4T N (w4 N d) (c10 N d)
abbrev b8i:=P4 [.v τ16,V0] [] [V0] [] (Int) fun z=>((z,()),())
end
end Go.Proofs.YtolpmfhiegpohaaGreatDoor
