/- What functions of the program compute, as plain functions (printed). -/
import Derived.Test.YtolpmfhiegpohaaGreatDoorQPaF9
namespace Go.Proofs.YtolpmfhiegpohaaGreatDoor
open Go Go.RowKit
set_option maxRecDepth 100000
set_option linter.unusedVariables false
noncomputable section
variable(N:Nat)
def a9u(_N:Nat)(b:c8)(k0 self:ρ30)(a:Int):Option Int:=br (decide (a<(b.length:Int))) (f5 (l6 b a) fun e=>br (e==35) (f5 (slc b a (b.length:Int)) fun g=>f5 (strings_IndexByte g 10) fun c=>br (decide (c<0)) (some (b.length:Int)) (self (IntKind.i64.wrap (a+c)))) (f5 (l6 b a) fun l=>f5 (strings_IndexByte [32,9,10,13] l) fun m=>br (decide (m>=0)) (self (IntKind.i64.wrap (a+1))) (some a))) (k0 a)
def a8B(N:Nat)(a:c8)(k0:ρ30):Nat->Int->Option Int|0,_=>none|n+1,b=>a9u N a k0 (a8B N a k0 n) b
def a1H(a:c8)(b:Int):Option Int:=a8B N a (fun c=>some c) N b
abbrev d99:=P4 [V1,V0] [] [V0] [] (Int) fun z=>((z,()),())
abbrev c1v:AF:=d99 fun x _=>a1H N x.1 x.2.1
abbrev c3H:SV [V0]->BV []->Int:=fun x _=>x.1
def d1l(_N:Nat):FuncId->Option Tmp->Option AF:=fun f _=>O5 [(32,F0 fun x _=>strings_IndexByte x.1 x.2.1)] f
theorem c8s:I8 (d1l N):=fun _ _ _ h=>o6 h (v8 (F1) G7)
def b8c:Nat->Hint:=fun i=>
 match i with
 |0=>⟨[],[0,1],[],[1],[],[]⟩
 |_=>o3
abbrev a7P:Env:=S9 b8c (d1l N) FF FF
noncomputable abbrev b19:Code:=V7 (m9 Tryz.f19) [true,false,false,false]
abbrev b5c:=A8 (a7P N) Tryz.f19 (c1v N) c3H
abbrev a6L:List (Nat×Sl):=[(0,V1),(1,V0)]
abbrev a6K:List (Nat×Sb):=[]
def b18(a:c8)(b:Int):St:=⟨36,[(0,.v .str a),(1,.v τ2 b)],[]⟩
def a4i(_b:c8)(a:Int):St:=⟨36,[(1,.v τ2 a)],[]⟩
def d1j(a:c8)(b:Int)(k:Ex->St->Option Int):Option Int:=a8B N a (fun c=>k (.exit 0) (a4i a c)) N b
abbrev c1t:FV a6L->HV a6K->(Ex->St->Option Int)->Option Int:=fun x _ k=>d1j N x.1 x.2.1 k
def a8C:Nat->Code->St->(Ex->St->Option Int)->Option Int:=fun i c=>
 match i with
 |0=>(LPc 36 a6L a6K (c1t N) (fun st k=>iter (b8c 0) (k6 (a7P N) N c 0) N st k))
 |i=>fun st k=>iter (b8c i) (k6 (a7P N) N c i) N st k
theorem c1u(a:c8)(KX:Nat->St->Option Int)(I:St->Option Int)(b:Int):
  k7 (a8C N) (a7P N) b19 0 (b18 a b) (p6 (b8c 0) I KX (b5c N))=a9u N a (fun c=>KX 0 (a4i a c)) (fun b=>I (b18 a b)) b:=by kernel_rfl
theorem c8r:∀x y k,(∀st,k .ret st=(b5c N) st)->iter (b8c 0) (k6 (a7P N) N b19 0) N ⟨36,Y7 a6L x,Y8 a6K y⟩ k=c1t N x y k:=fun x _ k hk=>
 j9 (S:=(Int)×Unit) (b8c 0) _ (k7 (a8C N) (a7P N) b19 0) (b5c N) (k9 _ _ N _ b19 0 (show LoopsOk (a8C N) (a7P N) N (b5c N) []from trivial)) (fun s=>b18 x.1 s.1) k hk
  (fun self s=>a9u N x.1 (fun a=>k (.exit 0) (a4i x.1 a)) (fun b=>self (b,())) s.1) (fun n s=>a8B N x.1 (fun a=>k (.exit 0) (a4i x.1 a)) n s.1) (fun _=>rfl) (fun _ _=>rfl)
  (fun I s=>c1u N x.1 (fun j=>k (.exit j)) I s.1) N (x.2.1,())
theorem d6K:F7 (a8C N) (a7P N) N (b5c N) 0 b19:=fun st k hk=>p8 36 a6L a6K _ _ (b5c N) (c8r N) _ st k hk (rfl)
theorem d1k(x:SV [V1,V0])(y:BV []):F5 (a7P N) Tryz.f19 (c1v N) c3H (a8C N) x y=a1H N x.1 x.2.1:=by kernel_rfl
theorem c8t:P7 19 (c1v N):=
 a1X (c8s N) Tryz.func19 rfl Tryz.call19 (c1v N) c3H (fun _ _=>rfl) N (a8C N) (show LoopsOk (a8C N) (a7P N) N (b5c N) [(0,b19)]from⟨d6K N,trivial⟩) (d1k N)
def K3(_N:Nat)(a:UInt8):Option Bool:=br (decide (a>=97)) (br (decide (a<=122)) (some true) (br (decide (a>=48)) (br (decide (a<=57)) (some true) (some (a==95))) (some (a==95)))) (br (decide (a>=48)) (br (decide (a<=57)) (some true) (some (a==95))) (some (a==95)))
abbrev e3O:=P4 [.v .u8] [] [V2] [] (Bool) fun z=>((z,()),())
abbrev d73:AF:=e3O fun x _=>K3 N x.1
theorem c1X:P7 88 (d73 N):=
 V5 h0 [] G7 Tryz.func88 rfl Tryz.call88 (d73 N) (fun x _=>x.1) (fun _ _=>rfl) N (fun _ _=>by kernel_rfl) rfl
def U6(_N:Nat)(a:UInt8):Option Bool:=br (decide (a>=48)) (some (decide (a<=57))) (some false)
abbrev d9U:=P4 [.v .u8] [] [V2] [] (Bool) fun z=>((z,()),())
abbrev d0K:AF:=d9U fun x _=>U6 N x.1
theorem c7Z:P7 89 (d0K N):=
 V5 h0 [] G7 Tryz.func89 rfl Tryz.call89 (d0K N) (fun x _=>x.1) (fun _ _=>rfl) N (fun _ _=>by kernel_rfl) rfl
def a5V(_N:Nat)(c:c8)(e g l:Int)(k0:c8->Option τ18)(self:Int->c8->Option τ18)(a:Int)(b:c8):Option τ18:=br (decide (a<(c.length:Int))) (f5 (l6 c a) fun q=>br (q==34) (some ((e,(b,(g,l))),(IntKind.i64.wrap (a+1),0))) (f5 (l6 c a) fun r=>br (decide (r<32)) (some ((e,(b,(g,l))),(0,10))) (f5 (l6 c a) fun t=>br (decide (t>126)) (some ((e,(b,(g,l))),(0,10))) (f5 (l6 c a) fun u=>br (u !=92) (f5 (slc c a (IntKind.i64.wrap (a+1))) fun m=>br (decide (b.length+m.length<=9223372036854775807)) (self (IntKind.i64.wrap (a+1)) (b++m)) none) (br (decide ((IntKind.i64.wrap (a+1))<(c.length:Int))) (f5 (l6 c (IntKind.i64.wrap (a+1))) fun v=>br (v==34) (f5 (slc c (IntKind.i64.wrap (a+1)) (IntKind.i64.wrap ((IntKind.i64.wrap (a+1))+1))) fun o=>br (decide (b.length+o.length<=9223372036854775807)) (self (IntKind.i64.wrap ((IntKind.i64.wrap (a+1))+1)) (b++o)) none) (f5 (l6 c (IntKind.i64.wrap (a+1))) fun w=>br (w==92) (f5 (slc c (IntKind.i64.wrap (a+1)) (IntKind.i64.wrap ((IntKind.i64.wrap (a+1))+1))) fun p=>br (decide (b.length+p.length<=9223372036854775807)) (self (IntKind.i64.wrap ((IntKind.i64.wrap (a+1))+1)) (b++p)) none) (br (decide ((IntKind.i64.wrap (a+1))<(c.length:Int))) (f5 (l6 c (IntKind.i64.wrap (a+1))) fun B=>br (B==110) (br (decide (b.length+([10]:c8).length<=9223372036854775807)) (self (IntKind.i64.wrap ((IntKind.i64.wrap (a+1))+1)) (b ++ [10])) none) (some ((e,(b,(g,l))),(0,10)))) (some ((e,(b,(g,l))),(0,10)))))) (br (decide ((IntKind.i64.wrap (a+1))<(c.length:Int))) (f5 (l6 c (IntKind.i64.wrap (a+1))) fun C=>br (C==110) (br (decide (b.length+([10]:c8).length<=9223372036854775807)) (self (IntKind.i64.wrap ((IntKind.i64.wrap (a+1))+1)) (b ++ [10])) none) (some ((e,(b,(g,l))),(0,10)))) (some ((e,(b,(g,l))),(0,10))))))))) (k0 b)
def a5l(N:Nat)(a:c8)(b c e:Int)(k0:c8->Option τ18):Nat->Int->c8->Option τ18|0,_,_=>none|n+1,g,l=>a5V N a b c e k0 (a5l N a b c e k0 n) g l
def T4(b:c8)(a:Int):Option τ18:=a5l N b 2 0 a (fun c=>some ((2,(c,(0,a))),(0,10))) N (IntKind.i64.wrap (a+1)) []
abbrev d9F(f:SV [V1,V0]->BV []->Option τ18):AF:={ps:=[V1,V0],bs:=[],rs:=[.v τ1,V0,V0],cs:=[],R:=τ0×Int×Int,out:=fun z=>((z.1,z.2.1,z.2.2,()),()),f:=f}
abbrev c0C:AF:=d9F fun x _=>T4 N x.1 x.2.1
abbrev c3b:SV [.v τ1,V0,V0]->BV []->τ18:=fun x _=>(x.1,x.2.1,x.2.2.1)
def d0f(_N:Nat):FuncId->Option Tmp->Option AF:=fun f _=>O5 [] f
theorem c7t:I8 (d0f N):=fun _ _ _ h=>o6 h G7
def b7O:Nat->Hint:=fun i=>
 match i with
 |0=>⟨[],[0,4,7,8],[1004,1007],[4,7],[1004,1007],[]⟩
 |100010=>⟨[1007],[1],[],[],[],[]⟩
 |100014=>⟨[1007],[1],[],[],[],[]⟩
 |_=>o3
abbrev a7B:Env:=S9 b7O (d0f N) FF FF
noncomputable abbrev b1i:Code:=V7 (m9 Tryz.f91) [true,true,false,true,false,false]
abbrev b4z:=A8 (a7B N) Tryz.f91 (c0C N) c3b
abbrev a5X:List (Nat×Sl):=[(0,V1),(4,.box 1004 0),(7,.box 1007 0),(8,V0)]
abbrev a5W:List (Nat×Sb):=[(1004,.cells [V0,V1,V0,V0]),(1007,.cells [V0,V1,V0,V0])]
def b1h(a:c8)(b:Int)(c:c8)(e g:Int)(l m:Int)(o p:Int)(q:c8):St:=⟨98,[(0,.v .str a),(4,.box 1004 0),(7,.box 1007 0),(8,.v τ2 p)],[(1004,.cells [.v τ2 b,.v .str c,.v τ2 e,.v τ2 g]),(1007,.cells [.v τ2 l,.v .str q,.v τ2 m,.v τ2 o])]⟩
def a3K(_p:c8)(a:Int)(b:c8)(c e:Int)(g l m:Int)(o:c8):St:=⟨98,[(4,.box 1004 0),(7,.box 1007 0)],[(1004,.cells [.v τ2 a,.v .str b,.v τ2 c,.v τ2 e]),(1007,.cells [.v τ2 g,.v .str o,.v τ2 l,.v τ2 m])]⟩
def d0d(a:c8)(g:Int)(l:c8)(m o:Int)(b c:Int)(e p:Int)(q:c8)(k:Ex->St->Option τ18):Option τ18:=a5l N a b c e (fun r=>k (.exit 0) (a3K a g l m o b c e r)) N p q
abbrev c0A:FV a5X->HV a5W->(Ex->St->Option τ18)->Option τ18:=fun x y k=>d0d N x.1 y.1.1 y.1.2.1 y.1.2.2.1 y.1.2.2.2.1 y.2.1.1 y.2.1.2.2.1 y.2.1.2.2.2.1 x.2.2.2.1 y.2.1.2.1 k
def a8j:Nat->Code->St->(Ex->St->Option τ18)->Option τ18:=fun i c=>
 match i with
 |0=>(LPc 98 a5X a5W (c0A N) (fun st k=>iter (b7O 0) (k6 (a7B N) N c 0) N st k))
 |i=>fun st k=>iter (b7O i) (k6 (a7B N) N c i) N st k
theorem c0B(a:c8)(m:Int)(o:c8)(p q:Int)(b c e:Int)(KX:Nat->St->Option τ18)(I:St->Option τ18)(g:Int)(l:c8):
  k7 (a8j N) (a7B N) b1i 0 (b1h a m o p q b c e g l) (p6 (b7O 0) I KX (b4z N))=a5V N a b c e (fun r=>KX 0 (a3K a m o p q b c e r)) (fun g l=>I (b1h a m o p q b c e g l)) g l:=by kernel_rfl
theorem c7s:∀x y k,(∀st,k .ret st=(b4z N) st)->iter (b7O 0) (k6 (a7B N) N b1i 0) N ⟨98,Y7 a5X x,Y8 a5W y⟩ k=c0A N x y k:=fun x y k hk=>
 j9 (S:=(Int)×(c8)×Unit) (b7O 0) _ (k7 (a8j N) (a7B N) b1i 0) (b4z N) (k9 _ _ N _ b1i 0 (show LoopsOk (a8j N) (a7B N) N (b4z N) []from trivial)) (fun s=>b1h x.1 y.1.1 y.1.2.1 y.1.2.2.1 y.1.2.2.2.1 y.2.1.1 y.2.1.2.2.1 y.2.1.2.2.2.1 s.1 s.2.1) k hk
  (fun self s=>a5V N x.1 y.2.1.1 y.2.1.2.2.1 y.2.1.2.2.2.1 (fun a=>k (.exit 0) (a3K x.1 y.1.1 y.1.2.1 y.1.2.2.1 y.1.2.2.2.1 y.2.1.1 y.2.1.2.2.1 y.2.1.2.2.2.1 a)) (fun b c=>self (b,c,())) s.1 s.2.1) (fun n s=>a5l N x.1 y.2.1.1 y.2.1.2.2.1 y.2.1.2.2.2.1 (fun a=>k (.exit 0) (a3K x.1 y.1.1 y.1.2.1 y.1.2.2.1 y.1.2.2.2.1 y.2.1.1 y.2.1.2.2.1 y.2.1.2.2.2.1 a)) n s.1 s.2.1) (fun _=>rfl) (fun _ _=>rfl)
  (fun I s=>c0B N x.1 y.1.1 y.1.2.1 y.1.2.2.1 y.1.2.2.2.1 y.2.1.1 y.2.1.2.2.1 y.2.1.2.2.2.1 (fun j=>k (.exit j)) I s.1 s.2.1) N (x.2.2.2.1,y.2.1.2.1,())
theorem d6n:F7 (a8j N) (a7B N) N (b4z N) 0 b1i:=fun st k hk=>p8 98 a5X a5W _ _ (b4z N) (c7s N) _ st k hk (rfl)
theorem d0e(x:SV [V1,V0])(y:BV []):F5 (a7B N) Tryz.f91 (c0C N) c3b (a8j N) x y=T4 N x.1 x.2.1:=by kernel_rfl
theorem c7u:P7 91 (c0C N):=
 a1X (c7t N) Tryz.func91 rfl Tryz.call91 (c0C N) c3b (fun _ _=>rfl) N (a8j N) (show LoopsOk (a8j N) (a7B N) N (b4z N) [(0,b1i)]from⟨d6n N,trivial⟩) (d0e N)
def a4e(b:c8)(k1 self:ρ31)(a:Int):Option τ18:=br (decide (a<(b.length:Int))) (f5 (l6 b a) fun c=>f5 (K3 N c) fun e=>br (e) (self (IntKind.i64.wrap (a+1))) (k1 a)) (k1 a)
def b12(N:Nat)(a:c8)(k1:ρ31):Nat->Int->Option τ18|0,_=>none|n+1,b=>a4e N a k1 (b12 N a k1 n) b
def a4g(b:c8)(k3 self:ρ31)(a:Int):Option τ18:=br (decide (a<(b.length:Int))) (f5 (l6 b a) fun c=>f5 (U6 N c) fun e=>br (e) (self (IntKind.i64.wrap (a+1))) (k3 a)) (k3 a)
def a8A(N:Nat)(a:c8)(k3:ρ31):Nat->Int->Option τ18|0,_=>none|n+1,b=>a4g N a k3 (a8A N a k3 n) b
def a0N(b:c8)(a:Int):Option τ18:=f5 (l6 b a) fun e=>br (decide (e>=97)) (br (decide (e<=122)) (b12 N b (fun g=>br (decide ((IntKind.i64.wrap (g-a))>40)) (some ((0,([],(0,a))),(0,2))) (f5 (slc b a g) fun l=>some ((1,(l,(0,a))),(g,0)))) N a) (f5 (U6 N e) fun m=>br (m) (a8A N b (fun c=>br (e==48) (br (decide ((IntKind.i64.wrap (c-a))>1)) (some ((0,([],(0,a))),(0,10))) (br (decide ((IntKind.i64.wrap (c-a))>9)) (some ((0,([],(0,a))),(0,2))) (f5 (slc b a c) fun o=>f5 (strconv_Atoi o) fun p=>some ((3,([],(p,a))),(c,0))))) (br (decide ((IntKind.i64.wrap (c-a))>9)) (some ((0,([],(0,a))),(0,2))) (f5 (slc b a c) fun q=>f5 (strconv_Atoi q) fun r=>some ((3,([],(r,a))),(c,0))))) N a) (br (e==34) (f5 (T4 N b a) fun t=>some t) (f5 (strings_IndexByte [61,43,40,41,91,93,123,125,44,58,59] e) fun u=>br (decide (u>=0)) (br (e==61) (br (decide ((IntKind.i64.wrap (a+1))<(b.length:Int))) (f5 (l6 b (IntKind.i64.wrap (a+1))) fun v=>br (v==61) (f5 (slc b a (IntKind.i64.wrap ((IntKind.i64.wrap (a+1))+1))) fun w=>some ((4,(w,(0,a))),(IntKind.i64.wrap ((IntKind.i64.wrap (a+1))+1),0))) (f5 (slc b a (IntKind.i64.wrap (a+1))) fun B=>some ((4,(B,(0,a))),(IntKind.i64.wrap (a+1),0)))) (f5 (slc b a (IntKind.i64.wrap (a+1))) fun C=>some ((4,(C,(0,a))),(IntKind.i64.wrap (a+1),0)))) (f5 (slc b a (IntKind.i64.wrap (a+1))) fun D=>some ((4,(D,(0,a))),(IntKind.i64.wrap (a+1),0)))) (some ((0,([],(0,a))),(0,10))))))) (f5 (U6 N e) fun E=>br (E) (a8A N b (fun c=>br (e==48) (br (decide ((IntKind.i64.wrap (c-a))>1)) (some ((0,([],(0,a))),(0,10))) (br (decide ((IntKind.i64.wrap (c-a))>9)) (some ((0,([],(0,a))),(0,2))) (f5 (slc b a c) fun H=>f5 (strconv_Atoi H) fun J=>some ((3,([],(J,a))),(c,0))))) (br (decide ((IntKind.i64.wrap (c-a))>9)) (some ((0,([],(0,a))),(0,2))) (f5 (slc b a c) fun K=>f5 (strconv_Atoi K) fun L=>some ((3,([],(L,a))),(c,0))))) N a) (br (e==34) (f5 (T4 N b a) fun O=>some O) (f5 (strings_IndexByte [61,43,40,41,91,93,123,125,44,58,59] e) fun Q=>br (decide (Q>=0)) (br (e==61) (br (decide ((IntKind.i64.wrap (a+1))<(b.length:Int))) (f5 (l6 b (IntKind.i64.wrap (a+1))) fun R=>br (R==61) (f5 (slc b a (IntKind.i64.wrap ((IntKind.i64.wrap (a+1))+1))) fun T=>some ((4,(T,(0,a))),(IntKind.i64.wrap ((IntKind.i64.wrap (a+1))+1),0))) (f5 (slc b a (IntKind.i64.wrap (a+1))) fun U=>some ((4,(U,(0,a))),(IntKind.i64.wrap (a+1),0)))) (f5 (slc b a (IntKind.i64.wrap (a+1))) fun V=>some ((4,(V,(0,a))),(IntKind.i64.wrap (a+1),0)))) (f5 (slc b a (IntKind.i64.wrap (a+1))) fun W=>some ((4,(W,(0,a))),(IntKind.i64.wrap (a+1),0)))) (some ((0,([],(0,a))),(0,10))))))
abbrev d97(f:SV [V1,V0]->BV []->Option τ18):AF:={ps:=[V1,V0],bs:=[],rs:=[.v τ1,V0,V0],cs:=[],R:=τ0×Int×Int,out:=fun z=>((z.1,z.2.1,z.2.2,()),()),f:=f}
abbrev c1r:AF:=d97 fun x _=>a0N N x.1 x.2.1
abbrev c3F:SV [.v τ1,V0,V0]->BV []->τ18:=fun x _=>(x.1,x.2.1,x.2.2.1)
def d1i:FuncId->Option Tmp->Option AF:=fun f _=>O5 [(32,F0 fun x _=>strings_IndexByte x.1 x.2.1),(88,d73 N),(89,d0K N),(90,b2T fun x _=>strconv_Atoi x.1),(91,c0C N)] f
theorem c8o:I8 (d1i N):=fun _ _ _ h=>o6 h (v8 (F1) (v8 (c1X N) (v8 (c7Z N) (v8 (a8f) (v8 (c7u N) G7)))))
def a7O:Nat->Hint:=fun i=>
 match i with
 |1=>⟨[],[0,1,4,7,8],[1004,1007],[0,1,4,7,8],[1004,1007],[]⟩
 |3=>⟨[],[0,1,4,7,8,9],[1004,1007],[0,1,4,7,8,9],[1004,1007],[]⟩
 |100010=>⟨[],[1],[],[],[],[]⟩
 |100026=>⟨[],[1],[],[],[],[]⟩
 |_=>o3
abbrev a1j:Env:=S9 a7O (d1i N) FF FF
noncomputable abbrev b16:Code:=V7 (m9 Tryz.f51) [true,true,true,false,true,false,true,false,false,false,false]
noncomputable abbrev b15:Code:=V7 (m9 Tryz.f51) [true,true,true,false,true,false,true,true,true,false,false,false,false]
abbrev a24:=A8 (a1j N) Tryz.f51 (c1r N) c3F
abbrev a6H:List (Nat×Sl):=[(0,V1),(1,V0),(4,.box 1004 0),(7,.box 1007 0),(8,V0)]
abbrev a6G:List (Nat×Sb):=[(1004,.cells [V0,V1,V0,V0]),(1007,.cells [V0,V1,V0,V0])]
def b13(a:c8)(b c:Int)(e:c8)(g l m:Int)(o:c8)(p q r:Int):St:=⟨125,[(0,.v .str a),(1,.v τ2 b),(4,.box 1004 0),(7,.box 1007 0),(8,.v τ2 r)],[(1004,.cells [.v τ2 c,.v .str e,.v τ2 g,.v τ2 l]),(1007,.cells [.v τ2 m,.v .str o,.v τ2 p,.v τ2 q])]⟩
def a4f(a:c8)(b c:Int)(e:c8)(g l m:Int)(o:c8)(p q r:Int):St:=⟨125,[(0,.v .str a),(1,.v τ2 b),(4,.box 1004 0),(7,.box 1007 0),(8,.v τ2 r)],[(1004,.cells [.v τ2 c,.v .str e,.v τ2 g,.v τ2 l]),(1007,.cells [.v τ2 m,.v .str o,.v τ2 p,.v τ2 q])]⟩
def d1f(a:c8)(b c:Int)(e:c8)(g l m:Int)(o:c8)(p q r:Int)(k:Ex->St->Option τ18):Option τ18:=b12 N a (fun t=>k (.exit 1) (a4f a b c e g l m o p q t)) N r
abbrev c1n:FV a6H->HV a6G->(Ex->St->Option τ18)->Option τ18:=fun x y k=>d1f N x.1 x.2.1 y.1.1 y.1.2.1 y.1.2.2.1 y.1.2.2.2.1 y.2.1.1 y.2.1.2.1 y.2.1.2.2.1 y.2.1.2.2.2.1 x.2.2.2.2.1 k
abbrev a6J:List (Nat×Sl):=[(0,V1),(1,V0),(4,.box 1004 0),(7,.box 1007 0),(8,V0),(9,.v .u8)]
abbrev a6I:List (Nat×Sb):=[(1004,.cells [V0,V1,V0,V0]),(1007,.cells [V0,V1,V0,V0])]
def b14(a:c8)(b:Int)(c:UInt8)(e:Int)(g:c8)(l m o:Int)(p:c8)(q r t:Int):St:=⟨125,[(0,.v .str a),(1,.v τ2 b),(4,.box 1004 0),(7,.box 1007 0),(8,.v τ2 t),(9,.v .u8 c)],[(1004,.cells [.v τ2 e,.v .str g,.v τ2 l,.v τ2 m]),(1007,.cells [.v τ2 o,.v .str p,.v τ2 q,.v τ2 r])]⟩
def a4h(a:c8)(b:Int)(c:UInt8)(e:Int)(g:c8)(l m o:Int)(p:c8)(q r t:Int):St:=⟨125,[(0,.v .str a),(1,.v τ2 b),(4,.box 1004 0),(7,.box 1007 0),(8,.v τ2 t),(9,.v .u8 c)],[(1004,.cells [.v τ2 e,.v .str g,.v τ2 l,.v τ2 m]),(1007,.cells [.v τ2 o,.v .str p,.v τ2 q,.v τ2 r])]⟩
def d1g(a:c8)(b:Int)(c:UInt8)(e:Int)(g:c8)(l m o:Int)(p:c8)(q r t:Int)(k:Ex->St->Option τ18):Option τ18:=a8A N a (fun u=>k (.exit 3) (a4h a b c e g l m o p q r u)) N t
abbrev c1p:FV a6J->HV a6I->(Ex->St->Option τ18)->Option τ18:=fun x y k=>d1g N x.1 x.2.1 x.2.2.2.2.2.1 y.1.1 y.1.2.1 y.1.2.2.1 y.1.2.2.2.1 y.2.1.1 y.2.1.2.1 y.2.1.2.2.1 y.2.1.2.2.2.1 x.2.2.2.2.1 k
def a2a:Nat->Code->St->(Ex->St->Option τ18)->Option τ18:=fun i c=>
 match i with
 |1=>(LPc 125 a6H a6G (c1n N) (fun st k=>iter (a7O 1) (k6 (a1j N) N c 1) N st k))
 |3=>(LPc 125 a6J a6I (c1p N) (fun st k=>iter (a7O 3) (k6 (a1j N) N c 3) N st k))
 |i=>fun st k=>iter (a7O i) (k6 (a1j N) N c i) N st k
theorem c1q(a:c8)(c:Int)(e:UInt8)(g:Int)(l:c8)(m o p:Int)(q:c8)(r t:Int)(KX:Nat->St->Option τ18)(I:St->Option τ18)(b:Int):
  k7 (a2a N) (a1j N) b15 3 (b14 a c e g l m o p q r t b) (p6 (a7O 3) I KX (a24 N))=a4g N a (fun u=>KX 3 (a4h a c e g l m o p q r t u)) (fun b=>I (b14 a c e g l m o p q r t b)) b:=by kernel_rfl
theorem c8n:∀x y k,(∀st,k .ret st=(a24 N) st)->iter (a7O 3) (k6 (a1j N) N b15 3) N ⟨125,Y7 a6J x,Y8 a6I y⟩ k=c1p N x y k:=fun x y k hk=>
 j9 (S:=(Int)×Unit) (a7O 3) _ (k7 (a2a N) (a1j N) b15 3) (a24 N) (k9 _ _ N _ b15 3 (show LoopsOk (a2a N) (a1j N) N (a24 N) []from trivial)) (fun s=>b14 x.1 x.2.1 x.2.2.2.2.2.1 y.1.1 y.1.2.1 y.1.2.2.1 y.1.2.2.2.1 y.2.1.1 y.2.1.2.1 y.2.1.2.2.1 y.2.1.2.2.2.1 s.1) k hk
  (fun self s=>a4g N x.1 (fun a=>k (.exit 3) (a4h x.1 x.2.1 x.2.2.2.2.2.1 y.1.1 y.1.2.1 y.1.2.2.1 y.1.2.2.2.1 y.2.1.1 y.2.1.2.1 y.2.1.2.2.1 y.2.1.2.2.2.1 a)) (fun b=>self (b,())) s.1) (fun n s=>a8A N x.1 (fun a=>k (.exit 3) (a4h x.1 x.2.1 x.2.2.2.2.2.1 y.1.1 y.1.2.1 y.1.2.2.1 y.1.2.2.2.1 y.2.1.1 y.2.1.2.1 y.2.1.2.2.1 y.2.1.2.2.2.1 a)) n s.1) (fun _=>rfl) (fun _ _=>rfl)
  (fun I s=>c1q N x.1 x.2.1 x.2.2.2.2.2.1 y.1.1 y.1.2.1 y.1.2.2.1 y.1.2.2.2.1 y.2.1.1 y.2.1.2.1 y.2.1.2.2.1 y.2.1.2.2.2.1 (fun j=>k (.exit j)) I s.1) N (x.2.2.2.2.1,())
theorem d6J:F7 (a2a N) (a1j N) N (a24 N) 3 b15:=fun st k hk=>p8 125 a6J a6I _ _ (a24 N) (c8n N) _ st k hk (rfl)
theorem c1o(a:c8)(c e:Int)(g:c8)(l m o:Int)(p:c8)(q r:Int)(KX:Nat->St->Option τ18)(I:St->Option τ18)(b:Int):
  k7 (a2a N) (a1j N) b16 1 (b13 a c e g l m o p q r b) (p6 (a7O 1) I KX (a24 N))=a4e N a (fun t=>KX 1 (a4f a c e g l m o p q r t)) (fun b=>I (b13 a c e g l m o p q r b)) b:=by kernel_rfl
theorem c8m:∀x y k,(∀st,k .ret st=(a24 N) st)->iter (a7O 1) (k6 (a1j N) N b16 1) N ⟨125,Y7 a6H x,Y8 a6G y⟩ k=c1n N x y k:=fun x y k hk=>
 j9 (S:=(Int)×Unit) (a7O 1) _ (k7 (a2a N) (a1j N) b16 1) (a24 N) (k9 _ _ N _ b16 1 (show LoopsOk (a2a N) (a1j N) N (a24 N) []from trivial)) (fun s=>b13 x.1 x.2.1 y.1.1 y.1.2.1 y.1.2.2.1 y.1.2.2.2.1 y.2.1.1 y.2.1.2.1 y.2.1.2.2.1 y.2.1.2.2.2.1 s.1) k hk
  (fun self s=>a4e N x.1 (fun a=>k (.exit 1) (a4f x.1 x.2.1 y.1.1 y.1.2.1 y.1.2.2.1 y.1.2.2.2.1 y.2.1.1 y.2.1.2.1 y.2.1.2.2.1 y.2.1.2.2.2.1 a)) (fun b=>self (b,())) s.1) (fun n s=>b12 N x.1 (fun a=>k (.exit 1) (a4f x.1 x.2.1 y.1.1 y.1.2.1 y.1.2.2.1 y.1.2.2.2.1 y.2.1.1 y.2.1.2.1 y.2.1.2.2.1 y.2.1.2.2.2.1 a)) n s.1) (fun _=>rfl) (fun _ _=>rfl)
  (fun I s=>c1o N x.1 x.2.1 y.1.1 y.1.2.1 y.1.2.2.1 y.1.2.2.2.1 y.2.1.1 y.2.1.2.1 y.2.1.2.2.1 y.2.1.2.2.2.1 (fun j=>k (.exit j)) I s.1) N (x.2.2.2.2.1,())
theorem d6I:F7 (a2a N) (a1j N) N (a24 N) 1 b16:=fun st k hk=>p8 125 a6H a6G _ _ (a24 N) (c8m N) _ st k hk (rfl)
theorem d1h(x:SV [V1,V0])(y:BV []):F5 (a1j N) Tryz.f51 (c1r N) c3F (a2a N) x y=a0N N x.1 x.2.1:=by kernel_rfl
theorem c8p:P7 51 (c1r N):=
 a1X (c8o N) Tryz.func51 rfl Tryz.call51 (c1r N) c3F (fun _ _=>rfl) N (a2a N) (show LoopsOk (a2a N) (a1j N) N (a24 N) [(1,b16),(3,b15)]from⟨d6I N,d6J N,trivial⟩) (d1h N)
def a9o(e:c8)(k0:τ5->Option τ27)(self:Int->τ5->Option τ27)(b:Int)(c:List τ0):Option τ27:=br (decide (b<(e.length:Int))) (f5 (a0N N e b) fun a=>br (decide ((c.length:Int)>=50000)) (some (b,(2,[]))) (br (a.2.2 !=0) (some (b,(a.2.2,[]))) (br (decide ((c.length + [a.1].length)*(24*Ty.sz τ1)<=140737488355328)) (f5 (a1H N e a.2.1) fun g=>self g (c ++ [a.1])) none))) (k0 c)
def b1T(N:Nat)(a:c8)(k0:τ5->Option τ27):Nat->Int->τ5->Option τ27|0,_,_=>none|n+1,b,c=>a9o N a k0 (b1T N a k0 n) b c
def a03(a:c8):Option τ27:=br (decide ((a.length:Int)>50000)) (some (0,(2,[]))) (f5 (a1H N a 0) fun b=>b1T N a (fun c=>some (0,(0,c))) N b [])
abbrev d91(f:SV [V1]->BV []->Option τ27):AF:={ps:=[V1],bs:=[],rs:=[.row 0,V0,V0],cs:=[.row 42 τ1 false],R:=Int×Int×List τ0,out:=fun z=>(((),z.1,z.2.1,()),(z.2.2,())),f:=f}
abbrev c1g:AF:=d91 fun x _=>a03 N x.1
abbrev c3z:SV [.row 0,V0,V0]->BV [.row 42 τ1 false]->τ27:=fun x y=>(x.2.1,x.2.2.1,y.1)
def d01:FuncId->Option Tmp->Option AF:=fun f _=>O5 [(19,c1v N),(51,c1r N)] f
theorem c8e:I8 (d01 N):=fun _ _ _ h=>o6 h (v8 (c8t N) (v8 (c8p N) G7))
def b71:Nat->Hint:=fun i=>
 match i with
 |0=>⟨[],[0,5,6],[1005],[5],[1005],[]⟩
 |_=>o3
abbrev a7L:Env:=S9 b71 (d01 N) FF FF
noncomputable abbrev b1V:Code:=V7 (m9 Tryz.f25) [true,true,true,false,true,false,false]
abbrev b42:=A8 (a7L N) Tryz.f25 (c1g N) c3z
abbrev a6z:List (Nat×Sl):=[(0,V1),(5,.row 1005),(6,V0)]
abbrev a6y:List (Nat×Sb):=[(1005,.row 42 τ1 false)]
def b1U(a:c8)(b:Int)(c:List τ0):St:=⟨43,[(0,.v .str a),(5,.row 1005),(6,.v τ2 b)],[(1005,.row 42 τ1 false c)]⟩
def a4a(_b:c8)(a:List τ0):St:=⟨43,[(5,.row 1005)],[(1005,.row 42 τ1 false a)]⟩
def d0Z(a:c8)(b:Int)(c:List τ0)(k:Ex->St->Option τ27):Option τ27:=b1T N a (fun e=>k (.exit 0) (a4a a e)) N b c
abbrev c1e:FV a6z->HV a6y->(Ex->St->Option τ27)->Option τ27:=fun x y k=>d0Z N x.1 x.2.2.1 y.1 k
def a8w:Nat->Code->St->(Ex->St->Option τ27)->Option τ27:=fun i c=>
 match i with
 |0=>(LPc 43 a6z a6y (c1e N) (fun st k=>iter (b71 0) (k6 (a7L N) N c 0) N st k))
 |i=>fun st k=>iter (b71 i) (k6 (a7L N) N c i) N st k
theorem c1f(a:c8)(KX:Nat->St->Option τ27)(I:St->Option τ27)(b:Int)(c:List τ0):
  k7 (a8w N) (a7L N) b1V 0 (b1U a b c) (p6 (b71 0) I KX (b42 N))=a9o N a (fun e=>KX 0 (a4a a e)) (fun b c=>I (b1U a b c)) b c:=by kernel_rfl
theorem c8d:∀x y k,(∀st,k .ret st=(b42 N) st)->iter (b71 0) (k6 (a7L N) N b1V 0) N ⟨43,Y7 a6z x,Y8 a6y y⟩ k=c1e N x y k:=fun x y k hk=>
 j9 (S:=(Int)×τ5×Unit) (b71 0) _ (k7 (a8w N) (a7L N) b1V 0) (b42 N) (k9 _ _ N _ b1V 0 (show LoopsOk (a8w N) (a7L N) N (b42 N) []from trivial)) (fun s=>b1U x.1 s.1 s.2.1) k hk
  (fun self s=>a9o N x.1 (fun a=>k (.exit 0) (a4a x.1 a)) (fun b c=>self (b,c,())) s.1 s.2.1) (fun n s=>b1T N x.1 (fun a=>k (.exit 0) (a4a x.1 a)) n s.1 s.2.1) (fun _=>rfl) (fun _ _=>rfl)
  (fun I s=>c1f N x.1 (fun j=>k (.exit j)) I s.1 s.2.1) N (x.2.2.1,y.1,())
theorem d6B:F7 (a8w N) (a7L N) N (b42 N) 0 b1V:=fun st k hk=>p8 43 a6z a6y _ _ (b42 N) (c8d N) _ st k hk (rfl)
theorem d00(x:SV [V1])(y:BV []):F5 (a7L N) Tryz.f25 (c1g N) c3z (a8w N) x y=a03 N x.1:=by kernel_rfl
theorem c8f:P7 25 (c1g N):=
 a1X (c8e N) Tryz.func25 rfl Tryz.call25 (c1g N) c3z (fun _ _=>rfl) N (a8w N) (show LoopsOk (a8w N) (a7L N) N (b42 N) [(0,b1V)]from⟨d6B N,trivial⟩) (d00 N)
def Z6(_N:Nat)(a b c:Int):Option Bool:=br (decide (b<=a)) (some (decide (a<=c))) (some false)
abbrev d94:=P4 [V0,V0,V0] [] [V2] [] (Bool) fun z=>((z,()),())
abbrev c5K:AF:=d94 fun x _=>Z6 N x.1 x.2.1 x.2.2.1
theorem b76:P7 192 (c5K N):=
 V5 h0 [] G7 Tryz.func192 rfl Tryz.call192 (c5K N) (fun x _=>x.1) (fun _ _=>rfl) N (fun _ _=>by kernel_rfl) rfl
def a9n(b:c8)(c:Int)(k0:Option Bool)(self:ρ29)(a:Int):Option Bool:=br (decide (a<c)) (f5 (l6 b a) fun e=>f5 (K3 N e) fun g=>br (!g) (some false) (self (IntKind.i64.wrap (a+1)))) (k0)
def b4Z(N:Nat)(a:c8)(b:Int)(k0:Option Bool):Nat->Int->Option Bool|0,_=>none|n+1,c=>a9n N a b k0 (b4Z N a b k0 n) c
def N7(a:c8):Option Bool:=f5 (Z6 N (a.length:Int) 1 40) fun b=>br (!b) (some false) (f5 (l6 a 0) fun c=>br (decide (c<97)) (some false) (f5 (l6 a 0) fun e=>br (decide (e>122)) (some false) (b4Z N a (a.length:Int) (f5 (strings_Split [109,97,99,114,111,32,102,111,114,32,105,110,32,105,102,32,101,108,115,101,32,117,115,101,32,102,105,108,101,115,32,99,104,111,111,115,101] [32]) fun g=>f5 (m8 N g a) fun l=>some (!l)) N 0)))
abbrev d90:=P4 [V1] [] [V2] [] (Bool) fun z=>((z,()),())
abbrev b41:AF:=d90 fun x _=>N7 N x.1
abbrev c3y:SV [V2]->BV []->Bool:=fun x _=>x.1
def d0Y:FuncId->Option Tmp->Option AF:=fun f _=>O5 [(88,d73 N),(115,a0O fun x _=>strings_Split x.1 x.2.1),(178,z4g N),(192,c5K N)] f
theorem c8c:I8 (d0Y N):=fun _ _ _ h=>o6 h (v8 (c1X N) (v8 (a1g) (v8 (b3e N) (v8 (b76 N) G7))))
def b70:Nat->Hint:=fun i=>
 match i with
 |0=>⟨[],[0,19,20],[],[0],[],[]⟩
 |_=>o3
abbrev a7K:Env:=S9 b70 (d0Y N) FF FF
noncomputable abbrev b1R:Code:=V7 (m9 Tryz.f149) [true,true,false,true,false,false]
abbrev b40:=A8 (a7K N) Tryz.f149 (b41 N) c3y
abbrev a6x:List (Nat×Sl):=[(0,V1),(19,V0),(20,V0)]
abbrev a6w:List (Nat×Sb):=[]
def b1Q(a:c8)(b c:Int):St:=⟨33,[(0,.v .str a),(19,.v τ2 b),(20,.v τ2 c)],[]⟩
def a39(a:c8)(_b:Int):St:=⟨33,[(0,.v .str a)],[]⟩
def d0W(a:c8)(b c:Int)(k:Ex->St->Option Bool):Option Bool:=b4Z N a b (k (.exit 0) (a39 a b)) N c
abbrev c1c:FV a6x->HV a6w->(Ex->St->Option Bool)->Option Bool:=fun x _ k=>d0W N x.1 x.2.1 x.2.2.1 k
def a8v:Nat->Code->St->(Ex->St->Option Bool)->Option Bool:=fun i c=>
 match i with
 |0=>(LPc 33 a6x a6w (c1c N) (fun st k=>iter (b70 0) (k6 (a7K N) N c 0) N st k))
 |i=>fun st k=>iter (b70 i) (k6 (a7K N) N c i) N st k
theorem c1d(a:c8)(b:Int)(KX:Nat->St->Option Bool)(I:St->Option Bool)(c:Int):
  k7 (a8v N) (a7K N) b1R 0 (b1Q a b c) (p6 (b70 0) I KX (b40 N))=a9n N a b (KX 0 (a39 a b)) (fun c=>I (b1Q a b c)) c:=by kernel_rfl
theorem c8b:∀x y k,(∀st,k .ret st=(b40 N) st)->iter (b70 0) (k6 (a7K N) N b1R 0) N ⟨33,Y7 a6x x,Y8 a6w y⟩ k=c1c N x y k:=fun x _ k hk=>
 j9 (S:=(Int)×Unit) (b70 0) _ (k7 (a8v N) (a7K N) b1R 0) (b40 N) (k9 _ _ N _ b1R 0 (show LoopsOk (a8v N) (a7K N) N (b40 N) []from trivial)) (fun s=>b1Q x.1 x.2.1 s.1) k hk
  (fun self s=>a9n N x.1 x.2.1 (k (.exit 0) (a39 x.1 x.2.1)) (fun a=>self (a,())) s.1) (fun n s=>b4Z N x.1 x.2.1 (k (.exit 0) (a39 x.1 x.2.1)) n s.1) (fun _=>rfl) (fun _ _=>rfl)
  (fun I s=>c1d N x.1 x.2.1 (fun j=>k (.exit j)) I s.1) N (x.2.2.1,())
theorem d6A:F7 (a8v N) (a7K N) N (b40 N) 0 b1R:=fun st k hk=>p8 33 a6x a6w _ _ (b40 N) (c8b N) _ st k hk (rfl)
theorem d0X(x:SV [V1])(y:BV []):F5 (a7K N) Tryz.f149 (b41 N) c3y (a8v N) x y=N7 N x.1:=by kernel_rfl
theorem b1S:P7 149 (b41 N):=
 a1X (c8c N) Tryz.func149 rfl Tryz.call149 (b41 N) c3y (fun _ _=>rfl) N (a8v N) (show LoopsOk (a8v N) (a7K N) N (b40 N) [(0,b1R)]from⟨d6A N,trivial⟩) (d0X N)
def O0(_N:Nat)(a:GExpr):Option Bool:=f5 (br (a.kind==0) (br (a.text==[]) (br (a.number==0) (br ((a.keys.length:Int)==0) (some ((a.kids.length:Int)==0)) (some false)) (some false)) (some false)) (some false)) fun b=>some b
abbrev d93:=P4 [.v τ4] [] [V2] [] (Bool) fun z=>((z,()),())
abbrev c5J:AF:=d93 fun x _=>O0 N x.1
def c3B(_N:Nat):FuncId->Option Tmp->Option AF:=fun f _=>O5 [] f
theorem c8i:I8 (c3B N):=fun _ _ _ h=>o6 h G7
def d8A:Nat->Hint:=fun i=>
 match i with
 |_=>o3
abbrev e18:Env:=S9 d8A (c3B N) FF FF |>.jk (fun i=>match i with|1=>some 2|_=>none)
theorem b75:P7 102 (c5J N):=
 a1W (e18 N) (EnvOk.jk (y6 d8A (c3B N) _ _ (c8i N)) _) Tryz.func102 rfl Tryz.call102 (c5J N) (fun x _=>x.1) (fun _ _=>rfl) N (fun _ _=>by kernel_rfl) rfl
abbrev b5b:=P4 [.v τ4] [] [V0] [] (Int) fun z=>((z,()),())
end
end Go.Proofs.YtolpmfhiegpohaaGreatDoor
