/- What functions of the program compute, as plain functions (printed). -/
import Derived.Test.YtolpmfhiegpohaaGreatDoorQPaF9
namespace Go.Proofs.YtolpmfhiegpohaaGreatDoor
set_option maxRecDepth 100000
set_option linter.unusedVariables false
open Go Go.RowKit
noncomputable section
noncomputable section
variable(N:Nat)
def e58(_N:Nat)(b:c8)(k0 self:ρ22)(a:Int):Option Int:=br (decide (a<(b.length:Int))) (f5 (l6 b a) fun e=>br (e==35) (f5 (slc b a (b.length:Int)) fun g=>f5 (strings_IndexByte g 10) fun c=>br (decide (c<0)) (some (b.length:Int)) (self (IntKind.i64.wrap (a+c)))) (f5 (l6 b a) fun l=>f5 (strings_IndexByte [32,9,10,13] l) fun m=>br (decide (m>=0)) (self (IntKind.i64.wrap (a+1))) (some a))) (k0 a)
def e5V(N:Nat)(a:c8)(k0:ρ22):Nat->Int->Option Int|0,_=>none|n+1,b=>e58 N a k0 (e5V N a k0 n) b
def a1H(a:c8)(b:Int):Option Int:=e5V N a (fun c=>some c) N b
abbrev e3O:=P4 [V1,V0] [] [V0] [] (Int) fun z=>((z,()),())
abbrev d73:AF:=e3O fun x _=>a1H N x.1 x.2.1
abbrev f3p:SV [V0]->BV []->Int:=fun x _=>x.1
def f4L(_N:Nat):FuncId->Option Tmp->Option AF:=fun f _=>O5 [(32,F0 fun x _=>strings_IndexByte x.1 x.2.1)] f
theorem f3o:I8 (f4L N):=fun _ _ _ h=>o6 h (v8 (F1) G7)
def f1k:Nat->Hint:=fun i=>
 match i with
 |0=>⟨[],[0,1],[],[1],[],[]⟩
 |_=>o3
abbrev e8A:Env:=S9 f1k (f4L N) FF FF
noncomputable abbrev e83:Code:=V7 (m9 Tryz.f19) [true,false,false,false]
abbrev f0i:=A8 (e8A N) Tryz.f19 (d73 N) f3p
abbrev e6Y:List (Nat×Sl):=[(0,V1),(1,V0)]
abbrev e6X:List (Nat×Sb):=[]
def e8o(a:c8)(b:Int):St:=⟨36,[(0,.v .str a),(1,.v τ2 b)],[]⟩
def e5R(_b:c8)(a:Int):St:=⟨36,[(1,.v τ2 a)],[]⟩
def f4s(a:c8)(b:Int)(k:Ex->St->Option Int):Option Int:=e5V N a (fun c=>k (.exit 0) (e5R a c)) N b
abbrev f06:FV e6Y->HV e6X->(Ex->St->Option Int)->Option Int:=fun x _ k=>f4s N x.1 x.2.1 k
def e8p:Nat->Code->St->(Ex->St->Option Int)->Option Int:=fun i c=>
 match i with
 |0=>(LPc 36 e6Y e6X (f06 N) (fun st k=>iter (f1k 0) (V4 (e8A N) N c 0) N st k))
 |i=>fun st k=>iter (f1k i) (V4 (e8A N) N c i) N st k
theorem f0h(a:c8)(KX:Nat->St->Option Int)(I:St->Option Int)(b:Int):
  a0b (e8p N) (e8A N) e83 0 (e8o a b) (p6 (f1k 0) I KX (f0i N))=e58 N a (fun c=>KX 0 (e5R a c)) (fun b=>I (e8o a b)) b:=by kernel_rfl
theorem f3n:∀x y k,(∀st,k .ret st=(f0i N) st)->iter (f1k 0) (V4 (e8A N) N e83 0) N ⟨36,Y7 e6Y x,Y8 e6X y⟩ k=f06 N x y k:=fun x _ k hk=>
 j9 (S:=(Int)×Unit) (f1k 0) _ (a0b (e8p N) (e8A N) e83 0) (f0i N) (k9 _ _ N _ e83 0 (show LoopsOk (e8p N) (e8A N) N (f0i N) []from trivial)) (fun s=>e8o x.1 s.1) k hk
  (fun self s=>e58 N x.1 (fun a=>k (.exit 0) (e5R x.1 a)) (fun b=>self (b,())) s.1) (fun n s=>e5V N x.1 (fun a=>k (.exit 0) (e5R x.1 a)) n s.1) (fun _=>rfl) (fun _ _=>rfl)
  (fun I s=>f0h N x.1 (fun j=>k (.exit j)) I s.1) N (x.2.1,())
theorem f5s:F7 (e8p N) (e8A N) N (f0i N) 0 e83:=fun st k hk=>p8 36 e6Y e6X _ _ (f0i N) (f3n N) _ st k hk (rfl)
theorem f4t(x:SV [V1,V0])(y:BV []):F5 (e8A N) Tryz.f19 (d73 N) f3p (e8p N) x y=a1H N x.1 x.2.1:=by kernel_rfl
theorem c1X:P7 19 (d73 N):=
 a1X (f3o N) Tryz.func19 rfl Tryz.call19 (d73 N) f3p (fun _ _=>rfl) N (e8p N) (show LoopsOk (e8p N) (e8A N) N (f0i N) [(0,e83)]from⟨f5s N,trivial⟩) (f4t N)
def K3(_N:Nat)(a:UInt8):Option Bool:=br (decide (a>=97)) (br (decide (a<=122)) (some true) (br (decide (a>=48)) (br (decide (a<=57)) (some true) (some (a==95))) (some (a==95)))) (br (decide (a>=48)) (br (decide (a<=57)) (some true) (some (a==95))) (some (a==95)))
def U6(_N:Nat)(a:UInt8):Option Bool:=br (decide (a>=48)) (some (decide (a<=57))) (some false)
def c19(_N:Nat)(c:c8)(e g l:Int)(k0:c8->Option (τ0×Int×Int))(self:Int->c8->Option (τ0×Int×Int))(a:Int)(b:c8):Option (τ0×Int×Int):=br (decide (a<(c.length:Int))) (f5 (l6 c a) fun q=>br (q==34) (some ((e,(b,(g,l))),(IntKind.i64.wrap (a+1),0))) (f5 (l6 c a) fun r=>br (decide (r<32)) (some ((e,(b,(g,l))),(0,10))) (f5 (l6 c a) fun t=>br (decide (t>126)) (some ((e,(b,(g,l))),(0,10))) (f5 (l6 c a) fun u=>br (u !=92) (f5 (slc c a (IntKind.i64.wrap (a+1))) fun m=>br (decide (b.length+m.length<=9223372036854775807)) (self (IntKind.i64.wrap (a+1)) (b++m)) none) (br (decide ((IntKind.i64.wrap (a+1))<(c.length:Int))) (f5 (l6 c (IntKind.i64.wrap (a+1))) fun v=>br (v==34) (f5 (slc c (IntKind.i64.wrap (a+1)) (IntKind.i64.wrap ((IntKind.i64.wrap (a+1))+1))) fun o=>br (decide (b.length+o.length<=9223372036854775807)) (self (IntKind.i64.wrap ((IntKind.i64.wrap (a+1))+1)) (b++o)) none) (f5 (l6 c (IntKind.i64.wrap (a+1))) fun w=>br (w==92) (f5 (slc c (IntKind.i64.wrap (a+1)) (IntKind.i64.wrap ((IntKind.i64.wrap (a+1))+1))) fun p=>br (decide (b.length+p.length<=9223372036854775807)) (self (IntKind.i64.wrap ((IntKind.i64.wrap (a+1))+1)) (b++p)) none) (br (decide ((IntKind.i64.wrap (a+1))<(c.length:Int))) (f5 (l6 c (IntKind.i64.wrap (a+1))) fun B=>br (B==110) (br (decide (b.length+([10]:c8).length<=9223372036854775807)) (self (IntKind.i64.wrap ((IntKind.i64.wrap (a+1))+1)) (b ++ [10])) none) (some ((e,(b,(g,l))),(0,10)))) (some ((e,(b,(g,l))),(0,10)))))) (br (decide ((IntKind.i64.wrap (a+1))<(c.length:Int))) (f5 (l6 c (IntKind.i64.wrap (a+1))) fun C=>br (C==110) (br (decide (b.length+([10]:c8).length<=9223372036854775807)) (self (IntKind.i64.wrap ((IntKind.i64.wrap (a+1))+1)) (b ++ [10])) none) (some ((e,(b,(g,l))),(0,10)))) (some ((e,(b,(g,l))),(0,10))))))))) (k0 b)
def b0F(N:Nat)(a:c8)(b c e:Int)(k0:c8->Option (τ0×Int×Int)):Nat->Int->c8->Option (τ0×Int×Int)|0,_,_=>none|n+1,g,l=>c19 N a b c e k0 (b0F N a b c e k0 n) g l
def T4(b:c8)(a:Int):Option (τ0×Int×Int):=b0F N b 2 0 a (fun c=>some ((2,(c,(0,a))),(0,10))) N (IntKind.i64.wrap (a+1)) []
def d8T(b:c8)(k1 self:ρ14)(a:Int):Option (τ0×Int×Int):=br (decide (a<(b.length:Int))) (f5 (l6 b a) fun c=>f5 (K3 N c) fun e=>br (e) (self (IntKind.i64.wrap (a+1))) (k1 a)) (k1 a)
def e1w(N:Nat)(a:c8)(k1:ρ14):Nat->Int->Option (τ0×Int×Int)|0,_=>none|n+1,b=>d8T N a k1 (e1w N a k1 n) b
def d9w(b:c8)(k3 self:ρ14)(a:Int):Option (τ0×Int×Int):=br (decide (a<(b.length:Int))) (f5 (l6 b a) fun c=>f5 (U6 N c) fun e=>br (e) (self (IntKind.i64.wrap (a+1))) (k3 a)) (k3 a)
def e1m(N:Nat)(a:c8)(k3:ρ14):Nat->Int->Option (τ0×Int×Int)|0,_=>none|n+1,b=>d9w N a k3 (e1m N a k3 n) b
def a0N(b:c8)(a:Int):Option (τ0×Int×Int):=f5 (l6 b a) fun e=>br (decide (e>=97)) (br (decide (e<=122)) (e1w N b (fun g=>br (decide ((IntKind.i64.wrap (g-a))>40)) (some ((0,([],(0,a))),(0,2))) (f5 (slc b a g) fun l=>some ((1,(l,(0,a))),(g,0)))) N a) (f5 (U6 N e) fun m=>br (m) (e1m N b (fun c=>br (e==48) (br (decide ((IntKind.i64.wrap (c-a))>1)) (some ((0,([],(0,a))),(0,10))) (br (decide ((IntKind.i64.wrap (c-a))>9)) (some ((0,([],(0,a))),(0,2))) (f5 (slc b a c) fun o=>f5 (strconv_Atoi o) fun p=>some ((3,([],(p,a))),(c,0))))) (br (decide ((IntKind.i64.wrap (c-a))>9)) (some ((0,([],(0,a))),(0,2))) (f5 (slc b a c) fun q=>f5 (strconv_Atoi q) fun r=>some ((3,([],(r,a))),(c,0))))) N a) (br (e==34) (f5 (T4 N b a) fun t=>some t) (f5 (strings_IndexByte [61,43,40,41,91,93,123,125,44,58,59] e) fun u=>br (decide (u>=0)) (br (e==61) (br (decide ((IntKind.i64.wrap (a+1))<(b.length:Int))) (f5 (l6 b (IntKind.i64.wrap (a+1))) fun v=>br (v==61) (f5 (slc b a (IntKind.i64.wrap ((IntKind.i64.wrap (a+1))+1))) fun w=>some ((4,(w,(0,a))),(IntKind.i64.wrap ((IntKind.i64.wrap (a+1))+1),0))) (f5 (slc b a (IntKind.i64.wrap (a+1))) fun B=>some ((4,(B,(0,a))),(IntKind.i64.wrap (a+1),0)))) (f5 (slc b a (IntKind.i64.wrap (a+1))) fun C=>some ((4,(C,(0,a))),(IntKind.i64.wrap (a+1),0)))) (f5 (slc b a (IntKind.i64.wrap (a+1))) fun D=>some ((4,(D,(0,a))),(IntKind.i64.wrap (a+1),0)))) (some ((0,([],(0,a))),(0,10))))))) (f5 (U6 N e) fun E=>br (E) (e1m N b (fun c=>br (e==48) (br (decide ((IntKind.i64.wrap (c-a))>1)) (some ((0,([],(0,a))),(0,10))) (br (decide ((IntKind.i64.wrap (c-a))>9)) (some ((0,([],(0,a))),(0,2))) (f5 (slc b a c) fun H=>f5 (strconv_Atoi H) fun J=>some ((3,([],(J,a))),(c,0))))) (br (decide ((IntKind.i64.wrap (c-a))>9)) (some ((0,([],(0,a))),(0,2))) (f5 (slc b a c) fun K=>f5 (strconv_Atoi K) fun L=>some ((3,([],(L,a))),(c,0))))) N a) (br (e==34) (f5 (T4 N b a) fun O=>some O) (f5 (strings_IndexByte [61,43,40,41,91,93,123,125,44,58,59] e) fun Q=>br (decide (Q>=0)) (br (e==61) (br (decide ((IntKind.i64.wrap (a+1))<(b.length:Int))) (f5 (l6 b (IntKind.i64.wrap (a+1))) fun R=>br (R==61) (f5 (slc b a (IntKind.i64.wrap ((IntKind.i64.wrap (a+1))+1))) fun T=>some ((4,(T,(0,a))),(IntKind.i64.wrap ((IntKind.i64.wrap (a+1))+1),0))) (f5 (slc b a (IntKind.i64.wrap (a+1))) fun U=>some ((4,(U,(0,a))),(IntKind.i64.wrap (a+1),0)))) (f5 (slc b a (IntKind.i64.wrap (a+1))) fun V=>some ((4,(V,(0,a))),(IntKind.i64.wrap (a+1),0)))) (f5 (slc b a (IntKind.i64.wrap (a+1))) fun W=>some ((4,(W,(0,a))),(IntKind.i64.wrap (a+1),0)))) (some ((0,([],(0,a))),(0,10))))))
def c8O(e:c8)(k0:τ4->Option (Int×Int×List τ0))(self:Int->τ4->Option (Int×Int×List τ0))(b:Int)(c:List τ0):Option (Int×Int×List τ0):=br (decide (b<(e.length:Int))) (f5 (a0N N e b) fun a=>br (decide ((c.length:Int)>=50000)) (some (b,(2,[]))) (br (a.2.2 !=0) (some (b,(a.2.2,[]))) (br (decide ((c.length + [a.1].length)*(24*Ty.sz τ1)<=140737488355328)) (f5 (a1H N e a.2.1) fun g=>self g (c ++ [a.1])) none))) (k0 c)
def c8M(N:Nat)(a:c8)(k0:τ4->Option (Int×Int×List τ0)):Nat->Int->τ4->Option (Int×Int×List τ0)|0,_,_=>none|n+1,b,c=>c8O N a k0 (c8M N a k0 n) b c
def a03(a:c8):Option (Int×Int×List τ0):=br (decide ((a.length:Int)>50000)) (some (0,(2,[]))) (f5 (a1H N a 0) fun b=>c8M N a (fun c=>some (0,(0,c))) N b [])
def Z6(_N:Nat)(a b c:Int):Option Bool:=br (decide (b<=a)) (some (decide (a<=c))) (some false)
def e1C(b:c8)(c:Int)(k0:Option Bool)(self:ρ21)(a:Int):Option Bool:=br (decide (a<c)) (f5 (l6 b a) fun e=>f5 (K3 N e) fun g=>br (!g) (some false) (self (IntKind.i64.wrap (a+1)))) (k0)
def e30(N:Nat)(a:c8)(b:Int)(k0:Option Bool):Nat->Int->Option Bool|0,_=>none|n+1,c=>e1C N a b k0 (e30 N a b k0 n) c
def N7(a:c8):Option Bool:=f5 (Z6 N (a.length:Int) 1 40) fun b=>br (!b) (some false) (f5 (l6 a 0) fun c=>br (decide (c<97)) (some false) (f5 (l6 a 0) fun e=>br (decide (e>122)) (some false) (e30 N a (a.length:Int) (f5 (strings_Split [109,97,99,114,111,32,102,111,114,32,105,110,32,105,102,32,101,108,115,101,32,117,115,101,32,102,105,108,101,115,32,99,104,111,111,115,101] [32]) fun g=>f5 (m8 N g a) fun l=>some (!l)) N 0)))
def O0(_N:Nat)(a:GExpr):Option Bool:=f5 (br (a.kind==0) (br (a.text==[]) (br (a.number==0) (br ((a.keys.length:Int)==0) (some ((a.kids.length:Int)==0)) (some false)) (some false)) (some false)) (some false)) fun b=>some b
end
end
noncomputable section
noncomputable section
variable(N:Nat)
def d5C(_N:Nat)(g9:ρ20)(e:List GExpr)(g:Int)(k0:ρ22)(self:ρ19)(c b:Int):Option Int:=br (decide (b<g)) (f5 (l6 e b) fun a=>f5 (g9 (GExpr.mk a.kind a.text a.number a.keys a.kids)) fun l=>self (IntKind.i64.wrap (c+l)) (IntKind.i64.wrap (b+1))) (k0 c)
def e1I(N:Nat)(g9:ρ20)(a:List GExpr)(b:Int)(k0:ρ22):Nat->Int->Int->Option Int|0,_,_=>none|n+1,c,e=>d5C N g9 a b k0 (e1I N g9 a b k0 n) c e
def a3u(g9:ρ20)(a:GExpr):Option Int:=e1I N g9 a.kids (a.kids.length:Int) (fun b=>some b) N 1 0
def T1(N:Nat):Nat->GExpr->Option (Int)|0=>fun _=>none|d+1=>a3u N (T1 N d)
def d5B(d7:ρ16)(e:List (c8×GExpr))(g:Int)(k2:ρ22)(self:ρ19)(c b:Int):Option Int:=br (decide (b<g)) (f5 (l6 e b) fun a=>f5 (T1 N N (GExpr.mk a.2.kind a.2.text a.2.number a.2.keys a.2.kids)) fun l=>self (IntKind.i64.wrap (c+l)) (IntKind.i64.wrap (b+1))) (k2 c)
def e1n(N:Nat)(d7:ρ16)(a:List (c8×GExpr))(b:Int)(k2:ρ22):Nat->Int->Int->Option Int|0,_,_=>none|n+1,c,e=>d5B N d7 a b k2 (e1n N d7 a b k2 n) c e
def a4B(d7:ρ16)(m:List GStmt)(o:Int)(k0:ρ22)(self:ρ19)(c b:Int):Option Int:=br (decide (b<o)) (f5 (l6 m b) fun a=>f5 (d7 a.body) fun g=>f5 (d7 a.els) fun l=>f5 (br (a.kind==1) (some true) (br (a.kind==4) (some true) (br (a.kind==5) (some true) (f5 (O0 N (GExpr.mk a.expr.kind a.expr.text a.expr.number a.expr.keys a.expr.kids)) fun p=>some (!p))))) fun q=>br (q) (f5 (T1 N N (GExpr.mk a.expr.kind a.expr.text a.expr.number a.expr.keys a.expr.kids)) fun r=>e1n N d7 a.args (a.args.length:Int) (fun e=>self e (IntKind.i64.wrap (b+1))) N (IntKind.i64.wrap ((IntKind.i64.wrap (c+(IntKind.i64.wrap ((IntKind.i64.wrap (1+g))+l))))+r)) 0) (e1n N d7 a.args (a.args.length:Int) (fun e=>self e (IntKind.i64.wrap (b+1))) N (IntKind.i64.wrap (c+(IntKind.i64.wrap ((IntKind.i64.wrap (1+g))+l)))) 0)) (k0 c)
def c42(N:Nat)(d7:ρ16)(a:List GStmt)(b:Int)(k0:ρ22):Nat->Int->Int->Option Int|0,_,_=>none|n+1,c,e=>a4B N d7 a b k0 (c42 N d7 a b k0 n) c e
def a3t(d7:ρ16)(a:List GStmt):Option Int:=c42 N d7 a (a.length:Int) (fun b=>some b) N 0 0
def M5(N:Nat):Nat->(List GStmt)->Option (Int)|0=>fun _=>none|d+1=>a3t N (M5 N d)
def a1r(_N:Nat)(a:Int):Option Bool:=f5 (br (a==1) (some true) (br (a==2) (some true) (br (a==3) (some true) (some (a==4))))) fun b=>some b
def e0y(b:List c8)(c:Int)(k0:Option Int)(self:ρ22)(a:Int):Option Int:=br (decide (a<c)) (f5 (l6 b a) fun e=>f5 (N7 N e) fun g=>br (!g) (some (5:Int)) (self (IntKind.i64.wrap (a+1)))) (k0)
def e1o(N:Nat)(a:List c8)(b:Int)(k0:Option Int):Nat->Int->Option Int|0,_=>none|n+1,c=>e0y N a b k0 (e1o N a b k0 n) c
def e07(b:List (c8×GExpr))(c:Int)(k2:Option Int)(self:ρ22)(a:Int):Option Int:=br (decide (a<c)) (f5 (l6 b a) fun e=>f5 (N7 N e.1) fun g=>br (!g) (some (5:Int)) (self (IntKind.i64.wrap (a+1)))) (k2)
def d5H(N:Nat)(a:List (c8×GExpr))(b:Int)(k2:Option Int):Nat->Int->Option Int|0,_=>none|n+1,c=>e07 N a b k2 (d5H N a b k2 n) c
def X3(a:GStmt):Option Int:=f5 (f5 (a1r N a.kind) fun b=>br (b) (f5 (N7 N a.name) fun c=>some (!c)) (some false)) fun e=>br (e) (some (5:Int)) (br (a.kind==3) (e1o N a.params (a.params.length:Int) (br (a.kind==2) (d5H N a.args (a.args.length:Int) (some (0:Int)) N 0) (some (0:Int))) N 0) (br (a.kind==2) (d5H N a.args (a.args.length:Int) (some (0:Int)) N 0) (some (0:Int))))
def e1M(_N:Nat)(b:c8)(c:Int)(k0:Option Bool)(self:ρ21)(a:Int):Option Bool:=br (decide (a<c)) (f5 (l6 b a) fun e=>br (e !=10) (f5 (l6 b a) fun g=>br (decide (g<32)) (some false) (f5 (l6 b a) fun l=>br (decide (l>126)) (some false) (self (IntKind.i64.wrap (a+1))))) (self (IntKind.i64.wrap (a+1)))) (k0)
def e4R(N:Nat)(a:c8)(b:Int)(k0:Option Bool):Nat->Int->Option Bool|0,_=>none|n+1,c=>e1M N a b k0 (e4R N a b k0 n) c
def N9(a:c8):Option Bool:=e4R N a (a.length:Int) (some true) N 0
def a1S(a:GStmt):Option Bool:=f5 (br (!(a.name==[])) (f5 (a1r N a.kind) fun b=>some (!b)) (some false)) fun c=>br (c) (some false) (f5 (br (!(a.text==[])) (some (a.kind !=6)) (some false)) fun e=>br (e) (some false) (f5 (N9 N a.text) fun g=>br (!g) (some false) (f5 (br (decide ((a.params.length:Int)>0)) (some (a.kind !=3)) (some false)) fun l=>br (l) (some false) (f5 (br (decide ((a.args.length:Int)>0)) (some (a.kind !=2)) (some false)) fun m=>br (m) (some false) (f5 (f5 (O0 N (GExpr.mk a.expr.kind a.expr.text a.expr.number a.expr.keys a.expr.kids)) fun o=>br (!o) (br (a.kind !=1) (br (a.kind !=4) (some (a.kind !=5)) (some false)) (some false)) (some false)) fun p=>br (p) (some false) (f5 (br (decide ((a.body.length:Int)>0)) (br (a.kind !=3) (br (a.kind !=4) (some (a.kind !=5)) (some false)) (some false)) (some false)) fun q=>br (q) (some false) (f5 (br ((a.els.length:Int)==0) (some true) (some (a.kind==5))) fun r=>some r)))))))
end
end
noncomputable section
noncomputable section
variable(N:Nat)
def e1s(b:List c8)(c:Int)(e:List c8)(k0:Option Bool)(self:ρ21)(a:Int):Option Bool:=br (decide (a<c)) (f5 (l6 b a) fun g=>f5 (slc e 0 a) fun l=>f5 (m8 N l g) fun m=>br (m) (some true) (self (IntKind.i64.wrap (a+1)))) (k0)
def e1Q(N:Nat)(a:List c8)(b:Int)(c:List c8)(k0:Option Bool):Nat->Int->Option Bool|0,_=>none|n+1,e=>e1s N a b c k0 (e1Q N a b c k0 n) e
def e1u(_N:Nat)(b:List (c8×GExpr))(c:Int)(e:c8)(k4:Option Bool)(self:ρ21)(a:Int):Option Bool:=br (decide (a<c)) (f5 (l6 b a) fun g=>br (e==g.1) (some true) (self (IntKind.i64.wrap (a+1)))) (k4)
def e2y(N:Nat)(a:List (c8×GExpr))(b:Int)(c:c8)(k4:Option Bool):Nat->Int->Option Bool|0,_=>none|n+1,e=>e1u N a b c k4 (e2y N a b c k4 n) e
def e1t(c:List (c8×GExpr))(e:Int)(g:List (c8×GExpr))(k2:Option Bool)(self:ρ21)(a:Int):Option Bool:=br (decide (a<e)) (f5 (l6 c a) fun l=>f5 (slc g 0 a) fun b=>e2y N b (b.length:Int) l.1 (self (IntKind.i64.wrap (a+1))) N 0) (k2)
def e1R(N:Nat)(a:List (c8×GExpr))(b:Int)(c:List (c8×GExpr))(k2:Option Bool):Nat->Int->Option Bool|0,_=>none|n+1,e=>e1t N a b c k2 (e1R N a b c k2 n) e
def a1s(a:GStmt):Option Bool:=e1Q N a.params (a.params.length:Int) a.params (e1R N a.args (a.args.length:Int) a.args (some false) N 0) N 0
def e1r(b:List c8)(c:Int)(k0:Option Bool)(self:ρ21)(a:Int):Option Bool:=br (decide (a<c)) (f5 (l6 b a) fun e=>f5 (N9 N e) fun g=>br (!g) (some false) (self (IntKind.i64.wrap (a+1)))) (k0)
def d5y(N:Nat)(a:List c8)(b:Int)(k0:Option Bool):Nat->Int->Option Bool|0,_=>none|n+1,c=>e1r N a b k0 (d5y N a b k0 n) c
def N8(a:GExpr):Option Bool:=f5 (br (!(a.text==[])) (br (a.kind !=1) (br (a.kind !=3) (some true) (f5 (N9 N a.text) fun b=>some (!b))) (f5 (N9 N a.text) fun c=>some (!c))) (f5 (N9 N a.text) fun e=>some (!e))) fun g=>br (g) (some false) (f5 (br (a.number !=0) (br (a.kind !=2) (some true) (f5 (Z6 N a.number 0 999999999) fun l=>some (!l))) (f5 (Z6 N a.number 0 999999999) fun m=>some (!m))) fun o=>br (o) (some false) (d5y N a.keys (a.keys.length:Int) (br (a.kind==1) (f5 (br ((a.kids.length:Int)==0) (some ((a.keys.length:Int)==0)) (some false)) fun p=>some p) (br (a.kind==2) (f5 (br ((a.kids.length:Int)==0) (some ((a.keys.length:Int)==0)) (some false)) fun q=>some q) (br (a.kind==3) (f5 (br ((a.kids.length:Int)==0) (some ((a.keys.length:Int)==0)) (some false)) fun r=>some r) (br (a.kind==4) (some ((a.keys.length:Int)==0)) (br (a.kind==6) (f5 (br ((a.keys.length:Int)==(a.kids.length:Int)) (some (decide ((a.keys.length:Int)>0))) (some false)) fun t=>some t) (f5 (br ((a.kids.length:Int)==2) (some ((a.keys.length:Int)==0)) (some false)) fun u=>some u)))))) N 0))
def a0j(_N:Nat)(a:GExpr)(c:Int):Option Bool:=f5 (l6 a.kids c) fun b=>f5 (br (a.kind==7) (br (b.kind==8) (some true) (br (a.kind==7) (br (c==1) (some (b.kind==7)) (some false)) (some false))) (br (a.kind==8) (br (b.kind==8) (some true) (br (a.kind==7) (br (c==1) (some (b.kind==7)) (some false)) (some false))) (br (a.kind==7) (br (c==1) (some (b.kind==7)) (some false)) (some false)))) fun e=>some e
def d8m(c9:ρ17)(b:List c8)(c:Int)(e:List c8)(k0:Option Int)(self:ρ22)(a:Int):Option Int:=br (decide (a<c)) (f5 (l6 b a) fun g=>f5 (slc e 0 a) fun l=>f5 (m8 N l g) fun m=>br (m) (some (7:Int)) (self (IntKind.i64.wrap (a+1)))) (k0)
def c4V(N:Nat)(c9:ρ17)(a:List c8)(b:Int)(c:List c8)(k0:Option Int):Nat->Int->Option Int|0,_=>none|n+1,e=>d8m N c9 a b c k0 (c4V N c9 a b c k0 n) e
def b6F(c9:ρ17)(c:Int)(l:List GExpr)(m o:Int)(p:c8)(q:Int)(r:List c8)(t:List GExpr)(k2:Option Int)(self:ρ22)(b:Int):Option Int:=br (decide (b<m)) (f5 (l6 l b) fun a=>f5 (a0j N (GExpr.mk o p q r t) b) fun u=>br (u) (f5 (c9 (GExpr.mk a.kind a.text a.number a.keys a.kids) (IntKind.i64.wrap (c+1))) fun e=>br (e !=0) (some e) (self (IntKind.i64.wrap (b+1)))) (f5 (c9 (GExpr.mk a.kind a.text a.number a.keys a.kids) c) fun g=>br (g !=0) (some g) (self (IntKind.i64.wrap (b+1))))) (k2)
def a4o(N:Nat)(c9:ρ17)(a:Int)(b:List GExpr)(c e:Int)(g:c8)(l:Int)(m:List c8)(o:List GExpr)(k2:Option Int):Nat->Int->Option Int|0,_=>none|n+1,p=>b6F N c9 a b c e g l m o k2 (a4o N c9 a b c e g l m o k2 n) p
def m7(c9:ρ17)(a:GExpr)(b:Int):Option Int:=br (decide (b>=30)) (some (2:Int)) (f5 (br (decide (a.kind<1)) (some true) (some (decide (a.kind>8)))) fun c=>br (c) (some (4:Int)) (f5 (br (a.kind==3) (f5 (N7 N a.text) fun e=>some (!e)) (some false)) fun g=>br (g) (some (5:Int)) (f5 (N8 N (GExpr.mk a.kind a.text a.number a.keys a.kids)) fun l=>br (!l) (some (3:Int)) (c4V N c9 a.keys (a.keys.length:Int) a.keys (br (a.kind==7) (a4o N c9 b a.kids (a.kids.length:Int) a.kind a.text a.number a.keys a.kids (some (0:Int)) N 0) (a4o N c9 (IntKind.i64.wrap (b+1)) a.kids (a.kids.length:Int) a.kind a.text a.number a.keys a.kids (some (0:Int)) N 0)) N 0))))
def b2N(N:Nat):Nat->GExpr->Int->Option (Int)|0=>fun _ _=>none|d+1=>m7 N (b2N N d)
end
end
noncomputable section
noncomputable section
variable(N:Nat)
def a2c(_N:Nat)(b6:H2)(e:Int)(g:List GStmt)(l:Int)(k0:Option Int)(self:ρ22)(b:Int):Option Int:=br (decide (b<l)) (f5 (l6 g b) fun a=>f5 (b6 (GStmt.mk a.kind a.name a.text a.params a.args (GExpr.mk a.expr.kind a.expr.text a.expr.number a.expr.keys a.expr.kids) a.body a.els a.at_) e) fun c=>br (c !=0) (some c) (self (IntKind.i64.wrap (b+1)))) (k0)
def d5A(N:Nat)(b6:H2)(a:Int)(b:List GStmt)(c:Int)(k0:Option Int):Nat->Int->Option Int|0,_=>none|n+1,e=>a2c N b6 a b c k0 (d5A N b6 a b c k0 n) e
def E0(b6:H2)(a:List GStmt)(b:Int):Option Int:=d5A N b6 b a (a.length:Int) (some (0:Int)) N 0
def b6S(b6:H2)(e:Int)(g:List (c8×GExpr))(l:Int)(k1:Option Int)(self:ρ22)(b:Int):Option Int:=br (decide (b<l)) (f5 (l6 g b) fun a=>f5 (b2N N N (GExpr.mk a.2.kind a.2.text a.2.number a.2.keys a.2.kids) (IntKind.i64.wrap (e+1))) fun c=>br (c !=0) (some c) (self (IntKind.i64.wrap (b+1)))) (k1)
def c14(N:Nat)(b6:H2)(a:Int)(b:List (c8×GExpr))(c:Int)(k1:Option Int):Nat->Int->Option Int|0,_=>none|n+1,e=>b6S N b6 a b c k1 (c14 N b6 a b c k1 n) e
def y9(b6:H2)(a:GStmt)(b:Int):Option Int:=br (decide (b>=30)) (some (2:Int)) (f5 (br (decide (a.kind<1)) (some true) (some (decide (a.kind>6)))) fun m=>br (m) (some (4:Int)) (f5 (X3 N (GStmt.mk a.kind a.name a.text a.params a.args (GExpr.mk a.expr.kind a.expr.text a.expr.number a.expr.keys a.expr.kids) a.body a.els a.at_)) fun c=>br (c !=0) (some c) (f5 (a1S N (GStmt.mk a.kind a.name a.text a.params a.args (GExpr.mk a.expr.kind a.expr.text a.expr.number a.expr.keys a.expr.kids) a.body a.els a.at_)) fun o=>br (!o) (some (3:Int)) (f5 (br (decide ((a.params.length:Int)>30)) (some true) (some (decide ((a.args.length:Int)>30)))) fun p=>br (p) (some (2:Int)) (f5 (a1s N (GStmt.mk a.kind a.name a.text a.params a.args (GExpr.mk a.expr.kind a.expr.text a.expr.number a.expr.keys a.expr.kids) a.body a.els a.at_)) fun q=>br (q) (some (7:Int)) (f5 (br (a.kind==1) (some true) (br (a.kind==4) (some true) (some (a.kind==5)))) fun r=>br (r) (f5 (b2N N N (GExpr.mk a.expr.kind a.expr.text a.expr.number a.expr.keys a.expr.kids) (IntKind.i64.wrap (b+1))) fun e=>br (e !=0) (some e) (c14 N b6 b a.args (a.args.length:Int) (f5 (E0 N b6 a.body (IntKind.i64.wrap (b+1))) fun g=>br (g !=0) (some g) (f5 (E0 N b6 a.els (IntKind.i64.wrap (b+1))) fun t=>some t)) N 0)) (c14 N b6 b a.args (a.args.length:Int) (f5 (E0 N b6 a.body (IntKind.i64.wrap (b+1))) fun l=>br (l !=0) (some l) (f5 (E0 N b6 a.els (IntKind.i64.wrap (b+1))) fun u=>some u)) N 0)))))))
def D4(N:Nat):Nat->GStmt->Int->Option (Int)|0=>fun _ _=>none|d+1=>y9 N (D4 N d)
def J4(a:List GStmt):Option Int:=f5 (M5 N N a) fun b=>br (decide (b>50000)) (some (2:Int)) (f5 (E0 N (D4 N N) a 0) fun c=>some c)
def y5(_N:Nat)(a:List τ0×Int×Int×Bool×Int)(b:Int)(c:c8):Option Bool:=br (!a.2.2.2.1) (br (decide (a.2.1<(a.1.length:Int))) (f5 (l6 a.1 a.2.1) fun e=>br (e.1==b) (f5 (l6 a.1 a.2.1) fun g=>some (g.2.1==c)) (some false)) (some false)) (some false)
def H9(_N:Nat)(a:List τ0×Int×Int×Bool×Int):Option Int:=br (decide (a.2.1<(a.1.length:Int))) (f5 (l6 a.1 a.2.1) fun b=>some b.2.2.2) (some a.2.2.1)
def j5(m:Int)(o:c8)(a b:Int)(c:Bool)(e:Int)(g:List τ0)(l:List (Int×Int)):Option (Bool×Int×Int×Bool×Int×List τ0×List (Int×Int)):=f5 (y5 N (g,(a,(b,(c,e)))) m o) fun p=>br (p) (some (true,(IntKind.i64.wrap (a+1),(b,(c,(e,(g,l))))))) (some (false,(a,(b,(c,(e,(g,l)))))))
def q8(a b:Int)(c:Bool)(g:Int)(e:List τ0)(l:List (Int×Int)):Option (Int×Int×Bool×Int×List τ0×List (Int×Int)):=br (!c) (f5 (H9 N (e,(a,(b,(c,g))))) fun m=>some (a,(b,(true,(m,(e,l)))))) (some (a,(b,(c,(g,(e,l))))))
def r8(a e:Int)(c:Bool)(g:Int)(b:List τ0)(l:List (Int×Int)):Option (c8×Int×Int×Bool×Int×List τ0×List (Int×Int)):=br (c) (f5 (q8 N a e c g b l) fun m=>some ([],m)) (br (decide (a>=(b.length:Int))) (f5 (q8 N a e c g b l) fun o=>some ([],o)) (f5 (l6 b a) fun p=>br (p.1 !=1) (f5 (q8 N a e c g b l) fun q=>some ([],q)) (f5 (l6 b a) fun r=>f5 (N7 N r.2.1) fun t=>br (!t) (f5 (q8 N a e c g b l) fun u=>some ([],u)) (f5 (l6 b (IntKind.i64.wrap ((IntKind.i64.wrap (a+1))-1))) fun v=>some (v.2.1,(IntKind.i64.wrap (a+1),(e,(c,(g,(b,l))))))))))
def C9(b:Int)(c:c8)(e g:Int)(l:Bool)(m:Int)(o:List τ0)(p:List (Int×Int)):Option (Int×Int×Bool×Int×List τ0×List (Int×Int)):=f5 (j5 N b c e g l m o p) fun a=>br (!a.1) (f5 (q8 N a.2.1 a.2.2.1 a.2.2.2.1 a.2.2.2.2.1 a.2.2.2.2.2.1 a.2.2.2.2.2.2) fun q=>some q) (some a.2)
def j7(a:c8)(b c:Int)(e:Bool)(g:Int)(l:List τ0)(m:List (Int×Int)):Option (Int×Int×Bool×Int×List τ0×List (Int×Int)):=f5 (C9 N 4 a b c e g l m) fun o=>some o
end
end
noncomputable section
noncomputable section
variable(N:Nat)
def b2h(k0 self:ρ10)(m o:Int)(l:Bool)(p:Int)(q:List τ0)(r:List (Int×Int))(c:List c8):Option τ15:=br (!l) (br (decide ((c.length:Int)>0)) (f5 (r8 N m o l p q r) fun e=>br (decide ((c.length + [e.1].length)*(24*Ty.sz .str)<=140737488355328)) (f5 (j5 N 4 [44] e.2.1 e.2.2.1 e.2.2.2.1 e.2.2.2.2.1 e.2.2.2.2.2.1 e.2.2.2.2.2.2) fun a=>br (!a.1) (k0 a.2.1 a.2.2.1 a.2.2.2.1 a.2.2.2.2.1 a.2.2.2.2.2.1 a.2.2.2.2.2.2 (c ++ [e.1])) (self a.2.1 a.2.2.1 a.2.2.2.1 a.2.2.2.2.1 a.2.2.2.2.2.1 a.2.2.2.2.2.2 (c ++ [e.1]))) none) (f5 (y5 N (q,(m,(o,(l,p)))) 4 [41]) fun t=>br (!t) (f5 (r8 N m o l p q r) fun g=>br (decide ((c.length + [g.1].length)*(24*Ty.sz .str)<=140737488355328)) (f5 (j5 N 4 [44] g.2.1 g.2.2.1 g.2.2.2.1 g.2.2.2.2.1 g.2.2.2.2.2.1 g.2.2.2.2.2.2) fun b=>br (!b.1) (k0 b.2.1 b.2.2.1 b.2.2.2.1 b.2.2.2.2.1 b.2.2.2.2.2.1 b.2.2.2.2.2.2 (c ++ [g.1])) (self b.2.1 b.2.2.1 b.2.2.2.1 b.2.2.2.2.1 b.2.2.2.2.2.1 b.2.2.2.2.2.2 (c ++ [g.1]))) none) (k0 m o l p q r c))) (k0 m o l p q r c)
def a0T(N:Nat)(k0:ρ10):Nat->Int->Int->Bool->Int->τ4->(List (Int×Int))->τ17->Option τ15|0,_,_,_,_,_,_,_=>none|n+1,a,b,c,e,g,l,m=>b2h N k0 (a0T N k0 n) a b c e g l m
def I0(c e:Int)(g:Bool)(l:Int)(m:List τ0)(o:List (Int×Int)):Option τ15:=f5 (j7 N [40] c e g l m o) fun a=>a0T N (fun p q r t u v w=>f5 (j7 N [41] p q r t u v) fun b=>some (b.1,(b.2.1,(b.2.2.1,(b.2.2.2.1,(b.2.2.2.2.1,(b.2.2.2.2.2,w))))))) N a.1 a.2.1 a.2.2.1 a.2.2.2.1 a.2.2.2.2.1 a.2.2.2.2.2 []
def M6(b c e:Int)(g:Bool)(l:Int)(m:List τ0)(o:List (Int×Int)):Option (Int×Int×Bool×Int×List τ0×List (Int×Int)):=n7 (f5 (H9 N (m,(c,(e,(g,l))))) fun a=>br (decide ((o.length + [(a,b)].length)*(24*Ty.sz (.pr τ2 τ2))<=140737488355328)) (some (c,(e,(g,(l,(m,o ++ [(a,b)])))))) none) (f5 (H9 N (m,(c,(e,(g,l))))) fun a=>j0 2 (br (decide ((o.length + [(a,b)].length)*(24*Ty.sz (.pr τ2 τ2))<=140737488355328)) (some (c,(e,(g,(l,(m,o ++ [(a,b)])))))) none))
def I1(a e:Int)(c:Bool)(g:Int)(b:List τ0)(l:List (Int×Int)):Option (c8×Int×Int×Bool×Int×List τ0×List (Int×Int)):=br (c) (f5 (q8 N a e c g b l) fun m=>some ([],m)) (br (decide (a>=(b.length:Int))) (f5 (q8 N a e c g b l) fun o=>some ([],o)) (f5 (l6 b a) fun p=>br (p.1 !=2) (f5 (q8 N a e c g b l) fun q=>some ([],q)) (f5 (l6 b (IntKind.i64.wrap ((IntKind.i64.wrap (a+1))-1))) fun r=>some (r.2.1,(IntKind.i64.wrap (a+1),(e,(c,(g,(b,l)))))))))
end
end
end Go.Proofs.YtolpmfhiegpohaaGreatDoor
