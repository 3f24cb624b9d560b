/- % -/
import Derived.Test.YtolpmfhiegpohaaGreatDoorQRpN
import Derived.Test.YtolpmfhiegpohaaGreatDoorQBmBd
namespace Go.Proofs.YtolpmfhiegpohaaGreatDoor
set_option maxRecDepth 100000
set_option linter.unusedVariables false
open Go Go.RowKit
noncomputable section
noncomputable section
variable(N:Nat)
def m7(a:List GStmt):Option Int:=j8 (t7 N N a) fun b=>br (decide (b>50000)) (some (2:Int)) (j8 (l7 N N a 0) fun c=>some c)
abbrev d8f:=sgM [.v τ5] [] [V0] [] (Int) fun z=>((z,()),())
abbrev d6b:AF:=d8f fun x _=>m7 N x.1
theorem b8S:Snd 22 (d6b N):=
 a2o h0 [(49,b9i fun x _=>t7 N N x.1),(50,b8O fun x _=>l7 N N x.1 x.2.1)] (L3 (b9j N N) (L3 (b8P N N) T8)) Tryz.func22 rfl Tryz.call22 (d6b N) (fun x _=>x.1) (fun _ _=>rfl) N (fun _ _=>by kernel_rfl) rfl
abbrev a2w:=sgM [.v τ3] [] [V1] [] (d7) fun z=>((z,()),())
def a34(_N:Nat)(d5:ρ19)(g:List GExpr)(l:Int)(k0:τ20->Option d7)(self:Int->τ20->Option d7)(b:Int)(c:List d7):Option d7:=br (decide (b<l)) (j8 (m6 g b) fun a=>j8 (d5 (Ze a)) fun e=>br (Zf (c.length + [e].length) .str) (self (IntKind.i64.wrap (b+1)) (c ++ [e])) none) (k0 c)
def b2z(N:Nat)(d5:ρ19)(a:List GExpr)(b:Int)(k0:τ20->Option d7):Nat->Int->τ20->Option d7|0,_,_=>none|n+1,c,e=>a34 N d5 a b k0 (b2z N d5 a b k0 n) c e
def Z5(d5:ρ19)(a:List GExpr):Option d7:=b2z N d5 a (a.length:Int) (fun b=>j8 (strings_Join b [44,32]) fun c=>some c) N 0 []
abbrev d5H:=sgM [.v (.sl τ3)] [] [V1] [] (d7) fun z=>((z,()),())
abbrev b8I(d5:ρ19):AF:=d5H fun x _=>Z5 N d5 x.1
abbrev c0F:SV [V1]->BV []->d7:=fun x _=>x.1
def c0E(_N:Nat)(d5:ρ19):FuncId->Option Tmp->Option AF:=fun f _=>lkF [(58,a2w fun x _=>d5 x.1),(59,c7n)] f
theorem c4S(d5:ρ19)(E9:Sound Tryz.prog GW x9 58 (a2w fun x y=>d5 x.1)):∀f q F,c0E N d5 f q=some F->Sound Tryz.prog GW x9 f F:=fun _ _ _ h=>B9 h (L3 (E9) (L3 (a9S) T8))
def b2B:Nat->Hint:=fun i=>
 match i with
 |0=>⟨[],[3,6,7,8],[1003],[3],[1003],[]⟩
 |_=>y5
abbrev a6P(d5:ρ19):Env:=mkE b2B (c0E N d5) (fun _=>false) (fun _=>false)
abbrev b2A(d5:ρ19):=L9 (a6P N d5) Tryz.f110 (b8I N d5) c0F
noncomputable abbrev a9R:Code:=cAt (B3 Tryz.f110) [true,true,false,true,false,false]
abbrev a5X:List (Nat×Sl):=[(3,.row 1003),(6,.v (.sl τ3)),(7,V0),(8,V0)]
abbrev a5W:List (Nat×Sb):=[(1003,.row 9 .str false)]
def a9Q(a:List GExpr)(b c:Int)(e:List d7):St:=⟨20,[(3,.row 1003),(6,.v (.sl τ3) a),(7,.v τ2 b),(8,.v τ2 c)],[(1003,.row 9 .str false e)]⟩
def a38(_b:List GExpr)(_c:Int)(a:List d7):St:=⟨20,[(3,.row 1003)],[(1003,.row 9 .str false a)]⟩
def c7k(d5:ρ19)(a:List GExpr)(b c:Int)(e:List d7)(k:Ex->St->Option d7):Option d7:=b2z N d5 a b (fun g=>k (.exit 0) (a38 a b g)) N c e
abbrev b8G(d5:ρ19):FV a5X->HV a5W->(Ex->St->Option d7)->Option d7:=fun x y k=>c7k N d5 x.2.1 x.2.2.1 x.2.2.2.1 y.1 k
def a7h(d5:ρ19):Nat->Code->St->(Ex->St->Option d7)->Option d7:=fun i c=>
 match i with
 |0=>(LPc 20 a5X a5W (b8G N d5) (fun st k=>iter (b2B 0) (o7 (a6P N d5) N c 0) N st k))
 |i=>fun st k=>iter (b2B i) (o7 (a6P N d5) N c i) N st k
theorem b8H(d5:ρ19)(a:List GExpr)(b:Int)(KX:Nat->St->Option d7)(I:St->Option d7)(c:Int)(e:List d7):
  p8 (a7h N d5) (a6P N d5) a9R 0 (a9Q a b c e) (F9 (b2B 0) I KX (b2A N d5))=a34 N d5 a b (fun g=>KX 0 (a38 a b g)) (fun c e=>I (a9Q a b c e)) c e:=by kernel_rfl
theorem c4R(d5:ρ19):∀x y k,(∀st,k .ret st=(b2A N d5) st)->iter (b2B 0) (o7 (a6P N d5) N a9R 0) N ⟨20,unF a5X x,unH a5W y⟩ k=b8G N d5 x y k:=fun x y k hk=>
 p9 (S:=(Int)×τ20×Unit) (b2B 0) _ (p8 (a7h N d5) (a6P N d5) a9R 0) (b2A N d5) (u9 _ _ N _ a9R 0 (show LoopsOk (a7h N d5) (a6P N d5) N (b2A N d5) []from trivial)) (fun s=>a9Q x.2.1 x.2.2.1 s.1 s.2.1) k hk
  (fun self s=>a34 N d5 x.2.1 x.2.2.1 (fun a=>k (.exit 0) (a38 x.2.1 x.2.2.1 a)) (fun b c=>self (b,c,())) s.1 s.2.1) (fun n s=>b2z N d5 x.2.1 x.2.2.1 (fun a=>k (.exit 0) (a38 x.2.1 x.2.2.1 a)) n s.1 s.2.1) (fun _=>rfl) (fun _ _=>rfl)
  (fun I s=>b8H N d5 x.2.1 x.2.2.1 (fun j=>k (.exit j)) I s.1 s.2.1) N (x.2.2.2.1,y.1,())
theorem d2u(d5:ρ19):Z1 (a7h N d5) (a6P N d5) N (b2A N d5) 0 a9R:=fun st k hk=>H3 20 a5X a5W _ _ (b2A N d5) (c4R N d5) _ st k hk (rfl)
theorem c7l(d5:ρ19)(x:SV [.v (.sl τ3)])(y:BV []):V4 (a6P N d5) Tryz.f110 (b8I N d5) c0F (a7h N d5) x y=Z5 N d5 x.1:=by kernel_rfl
theorem c4T(d5:ρ19)(E9:Sound Tryz.prog GW x9 58 (a2w fun x y=>d5 x.1)):Sound Tryz.prog GW x9 110 (b8I N d5):=
 b2f (O3 b2B (c0E N d5) _ _ (c4S N d5 E9)) Tryz.func110 rfl Tryz.call110 (b8I N d5) c0F (fun _ _=>rfl) N (a7h N d5) (show LoopsOk (a7h N d5) (a6P N d5) N (b2A N d5) [(0,a9R)]from⟨d2u N d5,trivial⟩) (c7l N d5)
def I0(d5:ρ19)(a:Int)(b:GExpr):Option d7:=j8 (N7 N b a) fun e=>br (e) (j8 (m6 b.kids a) fun g=>j8 (d5 g) fun c=>br (decide (([40]:d7).length+c.length<=9223372036854775807)) (br (decide (([40]++c).length+([41]:d7).length<=9223372036854775807)) (some (([40]++c) ++ [41])) none) none) (j8 (m6 b.kids a) fun l=>j8 (d5 l) fun m=>some m)
abbrev d9d:=sgM [V0,.v (.ptr τ3)] [] [V1] [] (d7) fun z=>((z,()),())
abbrev d6M(d5:ρ19):AF:=d9d fun x _=>I0 N d5 x.1 x.2.1
def d09(d5:ρ19):FuncId->Option Tmp->Option AF:=fun f _=>lkF [(58,a2w fun x _=>d5 x.1),(108,d3k N)] f
theorem d1a(d5:ρ19)(E9:Sound Tryz.prog GW x9 58 (a2w fun x y=>d5 x.1)):∀f q F,d09 N d5 f q=some F->Sound Tryz.prog GW x9 f F:=fun _ _ _ h=>B9 h (L3 (E9) (L3 (b82 N) T8))
def d9c:Nat->Hint:=fun i=>
 match i with
 |_=>y5
abbrev e0S(d5:ρ19):Env:=mkE d9c (d09 N d5) (fun _=>false) (fun _=>false)
theorem d1b(d5:ρ19)(E9:Sound Tryz.prog GW x9 58 (a2w fun x y=>d5 x.1)):Sound Tryz.prog GW x9 107 (d6M N d5):=
 a6K (e0S N d5) (O3 d9c (d09 N d5) _ _ (d1a N d5 E9)) Tryz.func107 rfl Tryz.call107 (d6M N d5) (fun x _=>x.1) (fun _ _=>rfl) N (fun _ _=>by kernel_rfl) rfl
def a7r(_N:Nat)(d5:ρ19)(g:GExpr)(l:List d7)(m:Int)(k1:τ20->Option d7)(self:Int->τ20->Option d7)(a:Int)(c:List d7):Option d7:=br (decide (a<m)) (j8 (m6 l a) fun o=>j8 (m6 g.kids a) fun p=>j8 (J1 o) fun b=>br (decide (b.length+([58,32]:d7).length<=9223372036854775807)) (j8 (d5 p) fun e=>br (decide ((b ++ [58,32]).length+e.length<=9223372036854775807)) (br (Zf (c.length + [(b ++ [58,32])++e].length) .str) (self (IntKind.i64.wrap (a+1)) (c ++ [(b ++ [58,32])++e])) none) none) none) (k1 c)
def b9f(N:Nat)(d5:ρ19)(a:GExpr)(b:List d7)(c:Int)(k1:τ20->Option d7):Nat->Int->τ20->Option d7|0,_,_=>none|n+1,e,g=>a7r N d5 a b c k1 (b9f N d5 a b c k1 n) e g
def H1(d5:ρ19)(a:GExpr):Option d7:=br (a.kind==1) (j8 (J1 a.text) fun p=>some p) (br (a.kind==2) (j8 (strconv_Itoa a.number) fun q=>some q) (br (a.kind==3) (some a.text) (br (a.kind==4) (j8 (Z5 N d5 a.kids) fun b=>br (decide (([91]:d7).length+b.length<=9223372036854775807)) (br (decide (([91]++b).length+([93]:d7).length<=9223372036854775807)) (some (([91]++b) ++ [93])) none) none) (br (a.kind==5) (j8 (Z5 N d5 a.kids) fun c=>br (decide (([102,105,108,101,115,40]:d7).length+c.length<=9223372036854775807)) (br (decide (([102,105,108,101,115,40]++c).length+([41]:d7).length<=9223372036854775807)) (some (([102,105,108,101,115,40]++c) ++ [41])) none) none) (br (a.kind==7) (j8 (I0 N d5 0 (Ze a)) fun e=>br (decide (e.length+([32,43,32]:d7).length<=9223372036854775807)) (j8 (I0 N d5 1 (Ze a)) fun m=>br (decide ((e ++ [32,43,32]).length+m.length<=9223372036854775807)) (some ((e ++ [32,43,32])++m)) none) none) (br (a.kind==8) (j8 (I0 N d5 0 (Ze a)) fun g=>br (decide (g.length+([32,61,61,32]:d7).length<=9223372036854775807)) (j8 (I0 N d5 1 (Ze a)) fun o=>br (decide ((g ++ [32,61,61,32]).length+o.length<=9223372036854775807)) (some ((g ++ [32,61,61,32])++o)) none) none) (b9f N d5 (Ze a) a.keys (a.keys.length:Int) (fun r=>j8 (strings_Join r [44,32]) fun l=>br (decide (([99,104,111,111,115,101,32,123]:d7).length+l.length<=9223372036854775807)) (br (decide (([99,104,111,111,115,101,32,123]++l).length+([125]:d7).length<=9223372036854775807)) (some (([99,104,111,111,115,101,32,123]++l) ++ [125])) none) none) N 0 [])))))))
abbrev d9e:=sgM [.v τ3] [] [V1] [] (d7) fun z=>((z,()),())
abbrev d3P(d5:ρ19):AF:=d9e fun x _=>H1 N d5 x.1
abbrev d1f:SV [V1]->BV []->d7:=fun x _=>x.1
def d1d(d5:ρ19):FuncId->Option Tmp->Option AF:=fun f _=>lkF [(58,a2w fun x _=>d5 x.1),(59,c7n),(60,d4F fun x _=>J1 x.1),(107,d6M N d5),(109,d5K fun x _=>strconv_Itoa x.1),(110,b8I N d5)] f
theorem d1e(d5:ρ19)(E9:Sound Tryz.prog GW x9 58 (a2w fun x y=>d5 x.1)):∀f q F,d1d N d5 f q=some F->Sound Tryz.prog GW x9 f F:=fun _ _ _ h=>B9 h (L3 (E9) (L3 (a9S) (L3 (b9h) (L3 (d1b N d5 E9) (L3 (c4W) (L3 (c4T N d5 E9) T8))))))
def c1I:Nat->Hint:=fun i=>
 match i with
 |1=>⟨[],[1,4,55,56,57],[1004],[4],[1004],[]⟩
 |100021=>y5
 |_=>y5
abbrev b4q(d5:ρ19):Env:=mkE c1I (d1d N d5) (fun _=>false) (fun _=>false)
abbrev c1H(d5:ρ19):=L9 (b4q N d5) Tryz.f58 (d3P N d5) d1f
noncomputable abbrev b5I:Code:=cAt (B3 Tryz.f58) [true,true,true,true,false,true,false,false]
abbrev a84:List (Nat×Sl):=[(1,.at_ τ3),(4,.row 1004),(55,.v N3),(56,V0),(57,V0)]
abbrev a83:List (Nat×Sb):=[(1004,.row 9 .str false)]
def b3W(a:GExpr)(b:List d7)(c e:Int)(g:List d7):St:=⟨80,[(1,.at_ τ3 a),(4,.row 1004),(55,.v N3 b),(56,.v τ2 c),(57,.v τ2 e)],[(1004,.row 9 .str false g)]⟩
def a6q(_b:GExpr)(_c:List d7)(_e:Int)(a:List d7):St:=⟨80,[(4,.row 1004)],[(1004,.row 9 .str false a)]⟩
def d3N(d5:ρ19)(a:GExpr)(b:List d7)(c e:Int)(g:List d7)(k:Ex->St->Option d7):Option d7:=b9f N d5 a b c (fun l=>k (.exit 1) (a6q a b c l)) N e g
abbrev c3Q(d5:ρ19):FV a84->HV a83->(Ex->St->Option d7)->Option d7:=fun x y k=>d3N N d5 x.1 x.2.2.1 x.2.2.2.1 x.2.2.2.2.1 y.1 k
def b3X(d5:ρ19):Nat->Code->St->(Ex->St->Option d7)->Option d7:=fun i c=>
 match i with
 |1=>(LPc 80 a84 a83 (c3Q N d5) (fun st k=>iter (c1I 1) (o7 (b4q N d5) N c 1) N st k))
 |i=>fun st k=>iter (c1I i) (o7 (b4q N d5) N c i) N st k
theorem c1G(d5:ρ19)(a:GExpr)(b:List d7)(c:Int)(KX:Nat->St->Option d7)(I:St->Option d7)(e:Int)(g:List d7):
  p8 (b3X N d5) (b4q N d5) b5I 1 (b3W a b c e g) (F9 (c1I 1) I KX (c1H N d5))=a7r N d5 a b c (fun l=>KX 1 (a6q a b c l)) (fun e g=>I (b3W a b c e g)) e g:=by kernel_rfl
theorem d1c(d5:ρ19):∀x y k,(∀st,k .ret st=(c1H N d5) st)->iter (c1I 1) (o7 (b4q N d5) N b5I 1) N ⟨80,unF a84 x,unH a83 y⟩ k=c3Q N d5 x y k:=fun x y k hk=>
 p9 (S:=(Int)×τ20×Unit) (c1I 1) _ (p8 (b3X N d5) (b4q N d5) b5I 1) (c1H N d5) (u9 _ _ N _ b5I 1 (show LoopsOk (b3X N d5) (b4q N d5) N (c1H N d5) []from trivial)) (fun s=>b3W x.1 x.2.2.1 x.2.2.2.1 s.1 s.2.1) k hk
  (fun self s=>a7r N d5 x.1 x.2.2.1 x.2.2.2.1 (fun a=>k (.exit 1) (a6q x.1 x.2.2.1 x.2.2.2.1 a)) (fun b c=>self (b,c,())) s.1 s.2.1) (fun n s=>b9f N d5 x.1 x.2.2.1 x.2.2.2.1 (fun a=>k (.exit 1) (a6q x.1 x.2.2.1 x.2.2.2.1 a)) n s.1 s.2.1) (fun _=>rfl) (fun _ _=>rfl)
  (fun I s=>c1G N d5 x.1 x.2.2.1 x.2.2.2.1 (fun j=>k (.exit j)) I s.1 s.2.1) N (x.2.2.2.2.1,y.1,())
theorem d6N(d5:ρ19):Z1 (b3X N d5) (b4q N d5) N (c1H N d5) 1 b5I:=fun st k hk=>H3 80 a84 a83 _ _ (c1H N d5) (d1c N d5) _ st k hk (rfl)
theorem d3O(d5:ρ19)(x:SV [.v τ3])(y:BV []):V4 (b4q N d5) Tryz.f58 (d3P N d5) d1f (b3X N d5) x y=H1 N d5 x.1:=by kernel_rfl
theorem d1g(d5:ρ19)(E9:Sound Tryz.prog GW x9 58 (a2w fun x y=>d5 x.1)):Sound Tryz.prog GW x9 58 (d3P N d5):=
 b2f (O3 c1I (d1d N d5) _ _ (d1e N d5 E9)) Tryz.func58 rfl Tryz.call58 (d3P N d5) d1f (fun _ _=>rfl) N (b3X N d5) (show LoopsOk (b3X N d5) (b4q N d5) N (c1H N d5) [(1,b5I)]from⟨d6N N d5,trivial⟩) (d3O N d5)
def v6(N:Nat):Nat->GExpr->Option (d7)|0=>fun _=>none|d+1=>H1 N (v6 N d)
theorem b5k(N:Nat):∀d,Sound Tryz.prog GW x9 58 (a2w fun x y=>v6 N d x.1)
 |0=>Sound.never Tryz.call58 (fun _ _=>rfl)
 |d+1=>d1g N (v6 N d) (b5k N d)
def s9(_N:Nat)(c:Int)(a:d7)(e:List UInt8):Option τ10:=j8 (strings_Repeat [32,32] c) fun b=>br (decide (b.length+a.length<=9223372036854775807)) (br (decide ((b++a).length+([10]:d7).length<=9223372036854775807)) (j8 (R7 ((b++a) ++ [10]) e) fun g=>some g.2) none) none
abbrev d8x(f:SV [.box 0 0,V0,V1]->BV [.bld 88 [.row 1],.row 5 .u8 true]->Option τ10):AF:={ps:=[.box 0 0,V0,V1],bs:=[.bld 88 [.row 1],.row 5 .u8 true],rs:=[],cs:=[.bld 88 [.row 1],.row 5 .u8 true],R:=List UInt8,out:=fun z=>((),((),()),z,()),f:=f}
abbrev d28:AF:=d8x fun x y=>s9 N x.2.1 x.2.2.1 y.2.1
def e0D:Nat->Hint:=fun i=>
 match i with
 |100000=>y5
 |_=>y5
theorem b8V:Snd 57 (d28 N):=
 a2o e0D [(105,d80 fun x y=>R7 x.2.1 y.2.1),(106,d89 fun x _=>strings_Repeat x.1 x.2.1)] (L3 (d0C) (L3 (d01) T8)) Tryz.func57 rfl Tryz.call57 (d28 N) (fun _ y=>y.2.1) (fun _ _=>rfl) N (fun _ _=>by kernel_rfl) rfl
abbrev b5o(f:SV [.box 0 0,V0,.v τ5]->BV [.bld 88 [.row 1],.row 5 .u8 true]->Option τ10):AF:={ps:=[.box 0 0,V0,.v τ5],bs:=[.bld 88 [.row 1],.row 5 .u8 true],rs:=[],cs:=[.bld 88 [.row 1],.row 5 .u8 true],R:=List UInt8,out:=fun z=>((),((),()),z,()),f:=f}
end
end
noncomputable section
noncomputable section
variable(N:Nat)
def G7(a8:ρ13)(a:Int)(b:d7)(c:List GStmt)(e:List UInt8):Option τ10:=br (decide (b.length+([32,123]:d7).length<=9223372036854775807)) (j8 (s9 N a (b ++ [32,123]) e) fun g=>j8 (a8 (IntKind.i64.wrap (a+1)) c g) fun l=>some l) none
abbrev d8d(f:SV [.box 0 0,V0,V1,.v τ5]->BV [.bld 88 [.row 1],.row 5 .u8 true]->Option τ10):AF:={ps:=[.box 0 0,V0,V1,.v τ5],bs:=[.bld 88 [.row 1],.row 5 .u8 true],rs:=[],cs:=[.bld 88 [.row 1],.row 5 .u8 true],R:=List UInt8,out:=fun z=>((),((),()),z,()),f:=f}
abbrev d59(a8:ρ13):AF:=d8d fun x y=>G7 N a8 x.2.1 x.2.2.1 x.2.2.2.1 y.2.1
def c8G(a8:ρ13):FuncId->Option Tmp->Option AF:=fun f _=>lkF [(29,b5o fun x y=>a8 x.2.1 x.2.2.1 y.2.1),(57,d28 N)] f
theorem c8H(a8:ρ13)(A7:Sound Tryz.prog GW x9 29 (b5o fun x y=>a8 x.2.1 x.2.2.1 y.2.1)):∀f q F,c8G N a8 f q=some F->Sound Tryz.prog GW x9 f F:=fun _ _ _ h=>B9 h (L3 (A7) (L3 (b8V N) T8))
def d8c:Nat->Hint:=fun i=>
 match i with
 |_=>y5
abbrev e0w(a8:ρ13):Env:=mkE d8c (c8G N a8) (fun _=>false) (fun _=>false)
theorem c8I(a8:ρ13)(A7:Sound Tryz.prog GW x9 29 (b5o fun x y=>a8 x.2.1 x.2.2.1 y.2.1)):Sound Tryz.prog GW x9 61 (d59 N a8):=
 a6K (e0w N a8) (O3 d8c (c8G N a8) _ _ (c8H N a8 A7)) Tryz.func61 rfl Tryz.call61 (d59 N a8) (fun _ y=>y.2.1) (fun _ _=>rfl) N (fun _ _=>by kernel_rfl) rfl
def b3I(a8:ρ13)(g:List (d7×GExpr))(l:Int)(k3:τ20->Option τ10)(self:Int->τ20->Option τ10)(b:Int)(c:List d7):Option τ10:=br (decide (b<l)) (j8 (m6 g b) fun a=>br (decide (a.1.length+([32,61,32]:d7).length<=9223372036854775807)) (j8 (v6 N N (Ze a.2)) fun e=>br (decide ((a.1 ++ [32,61,32]).length+e.length<=9223372036854775807)) (br (Zf (c.length + [(a.1 ++ [32,61,32])++e].length) .str) (self (IntKind.i64.wrap (b+1)) (c ++ [(a.1 ++ [32,61,32])++e])) none) none) none) (k3 c)
def c1u(N:Nat)(a8:ρ13)(a:List (d7×GExpr))(b:Int)(k3:τ20->Option τ10):Nat->Int->τ20->Option τ10|0,_,_=>none|n+1,c,e=>b3I N a8 a b k3 (c1u N a8 a b k3 n) c e
def a2x(a8:ρ13)(b:Int)(t:List GStmt)(u:Int)(k0:τ10->Option τ10)(self:Int->τ10->Option τ10)(c:Int)(e:List UInt8):Option τ10:=br (decide (c<u)) (j8 (m6 t c) fun a=>br (a.kind==1) (br (decide (a.name.length+([32,61,32]:d7).length<=9223372036854775807)) (j8 (v6 N N (Ze a.expr)) fun g=>br (decide ((a.name ++ [32,61,32]).length+g.length<=9223372036854775807)) (br (decide (((a.name ++ [32,61,32])++g).length+([59]:d7).length<=9223372036854775807)) (j8 (s9 N b (((a.name ++ [32,61,32])++g) ++ [59]) e) fun v=>self (IntKind.i64.wrap (c+1)) v) none) none) none) (br (a.kind==2) (c1u N a8 a.args (a.args.length:Int) (fun w=>br (decide (a.name.length+([40]:d7).length<=9223372036854775807)) (j8 (strings_Join w [44,32]) fun l=>br (decide ((a.name ++ [40]).length+l.length<=9223372036854775807)) (br (decide (((a.name ++ [40])++l).length+([41,59]:d7).length<=9223372036854775807)) (j8 (s9 N b (((a.name ++ [40])++l) ++ [41,59]) e) fun B=>self (IntKind.i64.wrap (c+1)) B) none) none) none) N 0 []) (br (a.kind==6) (j8 (J1 a.text) fun m=>br (decide (([117,115,101,32]:d7).length+m.length<=9223372036854775807)) (br (decide (([117,115,101,32]++m).length+([59]:d7).length<=9223372036854775807)) (j8 (s9 N b (([117,115,101,32]++m) ++ [59]) e) fun C=>self (IntKind.i64.wrap (c+1)) C) none) none) (br (a.kind==3) (br (decide (([109,97,99,114,111,32]:d7).length+a.name.length<=9223372036854775807)) (br (decide (([109,97,99,114,111,32]++a.name).length+([40]:d7).length<=9223372036854775807)) (j8 (strings_Join a.params [44,32]) fun o=>br (decide ((([109,97,99,114,111,32]++a.name) ++ [40]).length+o.length<=9223372036854775807)) (br (decide (((([109,97,99,114,111,32]++a.name) ++ [40])++o).length+([41]:d7).length<=9223372036854775807)) (j8 (G7 N a8 b (((([109,97,99,114,111,32]++a.name) ++ [40])++o) ++ [41]) a.body e) fun D=>j8 (s9 N b [125] D) fun E=>self (IntKind.i64.wrap (c+1)) E) none) none) none) none) (br (a.kind==4) (br (decide (([102,111,114,32]:d7).length+a.name.length<=9223372036854775807)) (br (decide (([102,111,114,32]++a.name).length+([32,105,110,32]:d7).length<=9223372036854775807)) (j8 (v6 N N (Ze a.expr)) fun p=>br (decide ((([102,111,114,32]++a.name) ++ [32,105,110,32]).length+p.length<=9223372036854775807)) (j8 (G7 N a8 b ((([102,111,114,32]++a.name) ++ [32,105,110,32])++p) a.body e) fun H=>j8 (s9 N b [125] H) fun J=>self (IntKind.i64.wrap (c+1)) J) none) none) none) (br (a.kind==5) (j8 (v6 N N (Ze a.expr)) fun q=>br (decide (([105,102,32]:d7).length+q.length<=9223372036854775807)) (j8 (G7 N a8 b ([105,102,32]++q) a.body e) fun r=>br (decide ((a.els.length:Int)>0)) (j8 (G7 N a8 b [125,32,101,108,115,101] a.els r) fun K=>j8 (s9 N b [125] K) fun L=>self (IntKind.i64.wrap (c+1)) L) (j8 (s9 N b [125] r) fun O=>self (IntKind.i64.wrap (c+1)) O)) none) (self (IntKind.i64.wrap (c+1)) e))))))) (k0 e)
def d0I(N:Nat)(a8:ρ13)(a:Int)(b:List GStmt)(c:Int)(k0:τ10->Option τ10):Nat->Int->τ10->Option τ10|0,_,_=>none|n+1,e,g=>a2x N a8 a b c k0 (d0I N a8 a b c k0 n) e g
def F7(a8:ρ13)(b:Int)(a:List GStmt)(c:List UInt8):Option τ10:=d0I N a8 b a (a.length:Int) (fun e=>some e) N 0 c
abbrev e0P(f:SV [.box 0 0,V0,.v τ5]->BV [.bld 88 [.row 1],.row 5 .u8 true]->Option τ10):AF:={ps:=[.box 0 0,V0,.v τ5],bs:=[.bld 88 [.row 1],.row 5 .u8 true],rs:=[],cs:=[.bld 88 [.row 1],.row 5 .u8 true],R:=List UInt8,out:=fun z=>((),((),()),z,()),f:=f}
abbrev z7g(a8:ρ13):AF:=e0P fun x y=>F7 N a8 x.2.1 x.2.2.1 y.2.1
abbrev d6G:SV []->BV [.bld 88 [.row 1],.row 5 .u8 true]->τ10:=fun _ y=>y.2.1
def d6F(a8:ρ13):FuncId->Option Tmp->Option AF:=fun f _=>lkF [(57,d28 N),(58,a2w fun x _=>v6 N N x.1),(59,c7n),(60,d4F fun x _=>J1 x.1),(61,d59 N a8)] f
theorem d3z(a8:ρ13)(A7:Sound Tryz.prog GW x9 29 (b5o fun x y=>a8 x.2.1 x.2.2.1 y.2.1)):∀f q F,d6F N a8 f q=some F->Sound Tryz.prog GW x9 f F:=fun _ _ _ h=>B9 h (L3 (b8V N) (L3 (b5k N N) (L3 (a9S) (L3 (b9h) (L3 (c8I N a8 A7) T8)))))
def z7h:Nat->Hint:=fun i=>
 match i with
 |0=>⟨[],[0,1,11,12,13],[0,1],[],[0,1],[]⟩
 |3=>⟨[],[0,1,7,8,11,12,13,35,36,37],[0,1,1007,1008],[0,1,7,8,11,12,13],[0,1,1007,1008],[]⟩
 |100005=>⟨[1007],[],[],[],[],[]⟩
 |100011=>⟨[1010],[],[],[],[],[]⟩
 |100013=>⟨[1007],[],[],[],[],[]⟩
 |100017=>⟨[1007],[],[],[],[],[]⟩
 |100020=>⟨[1007],[],[],[],[],[]⟩
 |100023=>⟨[1007],[],[],[],[],[]⟩
 |_=>y5
abbrev z7E(a8:ρ13):Env:=mkE z7h (d6F N a8) (fun _=>false) (fun _=>false)
abbrev z7R(a8:ρ13):=L9 (z7E N a8) Tryz.f29 (z7g N a8) d6G
noncomputable abbrev c5g:Code:=cAt (B3 Tryz.f29) [true,false,false]
noncomputable abbrev c1v:Code:=cAt (B3 Tryz.f29) [true,false,false,true,true,false,false,true,true,false,true,true,true,false,true,false,true,false,false]
abbrev b0X:List (Nat×Sl):=[(0,.box 0 0),(1,V0),(7,.box 1007 0),(8,.row 1008),(11,.v τ5),(12,V0),(13,V0),(35,.v (.sl X7)),(36,V0),(37,V0)]
abbrev b0W:List (Nat×Sb):=[(0,.bld 88 [.row 1]),(1,.row 5 .u8 true),(1007,.cells [V0,V1,V1,.v N3,.v (.sl X7),V0,V1,V0,.v N3,.v (.sl τ3),.v τ5,.v τ5,V0]),(1008,.row 9 .str false)]
def b6W(a:Int)(b:List GStmt)(c e:Int)(g:List (d7×GExpr))(l:Int)(m:List UInt8)(o:Int)(p q:d7)(r:List d7)(t:List (d7×GExpr))(u:Int)(w:d7)(B:Int)(C:List d7)(D:List GExpr)(E H:List GStmt)(J K:Int)(L:List d7):St:=⟨133,[(0,.box 0 0),(1,.v τ2 a),(7,.box 1007 0),(8,.row 1008),(11,.v τ5 b),(12,.v τ2 c),(13,.v τ2 e),(35,.v (.sl X7) g),(36,.v τ2 l),(37,.v τ2 K)],[(0,.bld 88 [.row 1]),(1,.row 5 .u8 true m),(1007,.cells [.v τ2 o,.v .str p,.v .str q,.v N3 r,.v (.sl X7) t,.v τ2 u,.v .str w,.v τ2 B,.v N3 C,.v (.sl τ3) D,.v τ5 E,.v τ5 H,.v τ2 J]),(1008,.row 9 .str false L)]⟩
def a8Q(a:Int)(b:List GStmt)(c e:Int)(_J:List (d7×GExpr))(_K:Int)(g:List UInt8)(l:Int)(m o:d7)(p:List d7)(q:List (d7×GExpr))(r:Int)(t:d7)(u:Int)(w:List d7)(B:List GExpr)(C D:List GStmt)(E:Int)(H:List d7):St:=⟨133,[(0,.box 0 0),(1,.v τ2 a),(7,.box 1007 0),(8,.row 1008),(11,.v τ5 b),(12,.v τ2 c),(13,.v τ2 e)],[(0,.bld 88 [.row 1]),(1,.row 5 .u8 true g),(1007,.cells [.v τ2 l,.v .str m,.v .str o,.v N3 p,.v (.sl X7) q,.v τ2 r,.v .str t,.v τ2 u,.v N3 w,.v (.sl τ3) B,.v τ5 C,.v τ5 D,.v τ2 E]),(1008,.row 9 .str false H)]⟩
def d6D(a8:ρ13)(c:Int)(e:List GStmt)(g l:Int)(a:List (d7×GExpr))(b:Int)(m:List UInt8)(o:Int)(p q:d7)(r:List d7)(t:List (d7×GExpr))(u:Int)(v:d7)(w:Int)(B:List d7)(C:List GExpr)(D E:List GStmt)(H J:Int)(K:List d7)(k:Ex->St->Option τ10):Option τ10:=c1u N a8 a b (fun L=>k (.exit 3) (a8Q c e g l a b m o p q r t u v w B C D E H L)) N J K
abbrev d0K(a8:ρ13):FV b0X->HV b0W->(Ex->St->Option τ10)->Option τ10:=fun x y k=>let z:=y.2.2.1.2.2.2.2.2;let u:=y.2.2.1.2;d6D N a8 x.2.1 x.2.2.2.2.1 x.2.2.2.2.2.1 x.2.2.2.2.2.2.1 x.2.2.2.2.2.2.2.1 x.2.2.2.2.2.2.2.2.1 y.2.1 y.2.2.1.1 u.1 u.2.1 u.2.2.1 u.2.2.2.1 z.1 z.2.1 z.2.2.1 z.2.2.2.1 z.2.2.2.2.1 z.2.2.2.2.2.1 z.2.2.2.2.2.2.1 z.2.2.2.2.2.2.2.1 x.2.2.2.2.2.2.2.2.2.1 y.2.2.2.1 k
abbrev b0V:List (Nat×Sl):=[(0,.box 0 0),(1,V0),(11,.v τ5),(12,V0),(13,V0)]
abbrev b0U:List (Nat×Sb):=[(0,.bld 88 [.row 1]),(1,.row 5 .u8 true)]
def b6V(a:Int)(b:List GStmt)(c e:Int)(g:List UInt8):St:=⟨133,[(0,.box 0 0),(1,.v τ2 a),(11,.v τ5 b),(12,.v τ2 c),(13,.v τ2 e)],[(0,.bld 88 [.row 1]),(1,.row 5 .u8 true g)]⟩
def a8P(_b:Int)(_c:List GStmt)(_e:Int)(a:List UInt8):St:=⟨133,[],[(0,.bld 88 [.row 1]),(1,.row 5 .u8 true a)]⟩
def d6C(a8:ρ13)(a:Int)(b:List GStmt)(c e:Int)(g:List UInt8)(k:Ex->St->Option τ10):Option τ10:=d0I N a8 a b c (fun l=>k (.exit 0) (a8P a b c l)) N e g
abbrev d0J(a8:ρ13):FV b0V->HV b0U->(Ex->St->Option τ10)->Option τ10:=fun x y k=>d6C N a8 x.2.1 x.2.2.1 x.2.2.2.1 x.2.2.2.2.1 y.2.1 k
def b3J(a8:ρ13):Nat->Code->St->(Ex->St->Option τ10)->Option τ10:=fun i c=>
 match i with
 |0=>(LPc 133 b0V b0U (d0J N a8) (fun st k=>iter (z7h 0) (o7 (z7E N a8) N c 0) N st k))
 |3=>(LPc 133 b0X b0W (d0K N a8) (fun st k=>iter (z7h 3) (o7 (z7E N a8) N c 3) N st k))
 |i=>fun st k=>iter (z7h i) (o7 (z7E N a8) N c i) N st k
theorem c5e(a8:ρ13)(g:Int)(l:List GStmt)(m o:Int)(a:List (d7×GExpr))(b:Int)(p:List UInt8)(q:Int)(r t:d7)(u:List d7)(v:List (d7×GExpr))(w:Int)(B:d7)(C:Int)(D:List d7)(E:List GExpr)(H J:List GStmt)(K:Int)(KX:Nat->St->Option τ10)(I:St->Option τ10)(c:Int)(e:List d7):
  p8 (b3J N a8) (z7E N a8) c1v 3 (b6W g l m o a b p q r t u v w B C D E H J K c e) (F9 (z7h 3) I KX (z7R N a8))=b3I N a8 a b (fun L=>KX 3 (a8Q g l m o a b p q r t u v w B C D E H J K L)) (fun c e=>I (b6W g l m o a b p q r t u v w B C D E H J K c e)) c e:=by kernel_rfl
theorem d3y(a8:ρ13):∀x y k,(∀st,k .ret st=(z7R N a8) st)->iter (z7h 3) (o7 (z7E N a8) N c1v 3) N ⟨133,unF b0X x,unH b0W y⟩ k=d0K N a8 x y k:=fun x y k hk=>
 p9 (S:=(Int)×τ20×Unit) (z7h 3) _ (p8 (b3J N a8) (z7E N a8) c1v 3) (z7R N a8) (u9 _ _ N _ c1v 3 (show LoopsOk (b3J N a8) (z7E N a8) N (z7R N a8) []from trivial)) (fun s=>b6W x.2.1 x.2.2.2.2.1 x.2.2.2.2.2.1 x.2.2.2.2.2.2.1 x.2.2.2.2.2.2.2.1 x.2.2.2.2.2.2.2.2.1 y.2.1 y.2.2.1.1 y.2.2.1.2.1 y.2.2.1.2.2.1 y.2.2.1.2.2.2.1 y.2.2.1.2.2.2.2.1 y.2.2.1.2.2.2.2.2.1 y.2.2.1.2.2.2.2.2.2.1 y.2.2.1.2.2.2.2.2.2.2.1 y.2.2.1.2.2.2.2.2.2.2.2.1 y.2.2.1.2.2.2.2.2.2.2.2.2.1 y.2.2.1.2.2.2.2.2.2.2.2.2.2.1 y.2.2.1.2.2.2.2.2.2.2.2.2.2.2.1 y.2.2.1.2.2.2.2.2.2.2.2.2.2.2.2.1 s.1 s.2.1) k hk
  (fun self s=>b3I N a8 x.2.2.2.2.2.2.2.1 x.2.2.2.2.2.2.2.2.1 (fun a=>k (.exit 3) (a8Q x.2.1 x.2.2.2.2.1 x.2.2.2.2.2.1 x.2.2.2.2.2.2.1 x.2.2.2.2.2.2.2.1 x.2.2.2.2.2.2.2.2.1 y.2.1 y.2.2.1.1 y.2.2.1.2.1 y.2.2.1.2.2.1 y.2.2.1.2.2.2.1 y.2.2.1.2.2.2.2.1 y.2.2.1.2.2.2.2.2.1 y.2.2.1.2.2.2.2.2.2.1 y.2.2.1.2.2.2.2.2.2.2.1 y.2.2.1.2.2.2.2.2.2.2.2.1 y.2.2.1.2.2.2.2.2.2.2.2.2.1 y.2.2.1.2.2.2.2.2.2.2.2.2.2.1 y.2.2.1.2.2.2.2.2.2.2.2.2.2.2.1 y.2.2.1.2.2.2.2.2.2.2.2.2.2.2.2.1 a)) (fun b c=>self (b,c,())) s.1 s.2.1) (fun n s=>c1u N a8 x.2.2.2.2.2.2.2.1 x.2.2.2.2.2.2.2.2.1 (fun a=>k (.exit 3) (a8Q x.2.1 x.2.2.2.2.1 x.2.2.2.2.2.1 x.2.2.2.2.2.2.1 x.2.2.2.2.2.2.2.1 x.2.2.2.2.2.2.2.2.1 y.2.1 y.2.2.1.1 y.2.2.1.2.1 y.2.2.1.2.2.1 y.2.2.1.2.2.2.1 y.2.2.1.2.2.2.2.1 y.2.2.1.2.2.2.2.2.1 y.2.2.1.2.2.2.2.2.2.1 y.2.2.1.2.2.2.2.2.2.2.1 y.2.2.1.2.2.2.2.2.2.2.2.1 y.2.2.1.2.2.2.2.2.2.2.2.2.1 y.2.2.1.2.2.2.2.2.2.2.2.2.2.1 y.2.2.1.2.2.2.2.2.2.2.2.2.2.2.1 y.2.2.1.2.2.2.2.2.2.2.2.2.2.2.2.1 a)) n s.1 s.2.1) (fun _=>rfl) (fun _ _=>rfl)
  (fun I s=>c5e N a8 x.2.1 x.2.2.2.2.1 x.2.2.2.2.2.1 x.2.2.2.2.2.2.1 x.2.2.2.2.2.2.2.1 x.2.2.2.2.2.2.2.2.1 y.2.1 y.2.2.1.1 y.2.2.1.2.1 y.2.2.1.2.2.1 y.2.2.1.2.2.2.1 y.2.2.1.2.2.2.2.1 y.2.2.1.2.2.2.2.2.1 y.2.2.1.2.2.2.2.2.2.1 y.2.2.1.2.2.2.2.2.2.2.1 y.2.2.1.2.2.2.2.2.2.2.2.1 y.2.2.1.2.2.2.2.2.2.2.2.2.1 y.2.2.1.2.2.2.2.2.2.2.2.2.2.1 y.2.2.1.2.2.2.2.2.2.2.2.2.2.2.1 y.2.2.1.2.2.2.2.2.2.2.2.2.2.2.2.1 (fun j=>k (.exit j)) I s.1 s.2.1) N (x.2.2.2.2.2.2.2.2.2.1,y.2.2.2.1,())
theorem d4z(a8:ρ13):Z1 (b3J N a8) (z7E N a8) N (z7R N a8) 3 c1v:=fun st k hk=>H3 133 b0X b0W _ _ (z7R N a8) (d3y N a8) _ st k hk (rfl)
theorem c5d(a8:ρ13)(a:Int)(b:List GStmt)(c:Int)(KX:Nat->St->Option τ10)(I:St->Option τ10)(e:Int)(g:List UInt8):
  p8 (b3J N a8) (z7E N a8) c5g 0 (b6V a b c e g) (F9 (z7h 0) I KX (z7R N a8))=a2x N a8 a b c (fun l=>KX 0 (a8P a b c l)) (fun e g=>I (b6V a b c e g)) e g:=by kernel_rfl
theorem d3x(a8:ρ13):∀x y k,(∀st,k .ret st=(z7R N a8) st)->iter (z7h 0) (o7 (z7E N a8) N c5g 0) N ⟨133,unF b0V x,unH b0U y⟩ k=d0J N a8 x y k:=fun x y k hk=>
 p9 (S:=(Int)×τ10×Unit) (z7h 0) _ (p8 (b3J N a8) (z7E N a8) c5g 0) (z7R N a8) (u9 _ _ N _ c5g 0 (show LoopsOk (b3J N a8) (z7E N a8) N (z7R N a8) [(3,c1v)]from⟨d4z N a8,trivial⟩)) (fun s=>b6V x.2.1 x.2.2.1 x.2.2.2.1 s.1 s.2.1) k hk
  (fun self s=>a2x N a8 x.2.1 x.2.2.1 x.2.2.2.1 (fun a=>k (.exit 0) (a8P x.2.1 x.2.2.1 x.2.2.2.1 a)) (fun b c=>self (b,c,())) s.1 s.2.1) (fun n s=>d0I N a8 x.2.1 x.2.2.1 x.2.2.2.1 (fun a=>k (.exit 0) (a8P x.2.1 x.2.2.1 x.2.2.2.1 a)) n s.1 s.2.1) (fun _=>rfl) (fun _ _=>rfl)
  (fun I s=>c5d N a8 x.2.1 x.2.2.1 x.2.2.2.1 (fun j=>k (.exit j)) I s.1 s.2.1) N (x.2.2.2.2.1,y.2.1,())
theorem d82(a8:ρ13):Z1 (b3J N a8) (z7E N a8) N (z7R N a8) 0 c5g:=fun st k hk=>H3 133 b0V b0U _ _ (z7R N a8) (d3x N a8) _ st k hk (rfl)
theorem d6E(a8:ρ13)(x:SV [.box 0 0,V0,.v τ5])(y:BV [.bld 88 [.row 1],.row 5 .u8 true]):V4 (z7E N a8) Tryz.f29 (z7g N a8) d6G (b3J N a8) x y=F7 N a8 x.2.1 x.2.2.1 y.2.1:=by kernel_rfl
theorem d3A(a8:ρ13)(A7:Sound Tryz.prog GW x9 29 (b5o fun x y=>a8 x.2.1 x.2.2.1 y.2.1)):Sound Tryz.prog GW x9 29 (z7g N a8):=
 b2f (O3 z7h (d6F N a8) _ _ (d3z N a8 A7)) Tryz.func29 rfl Tryz.call29 (z7g N a8) d6G (fun _ _=>rfl) N (b3J N a8) (show LoopsOk (b3J N a8) (z7E N a8) N (z7R N a8) [(0,c5g),(3,c1v)]from⟨d82 N a8,d4z N a8,trivial⟩) (d6E N a8)
def C1(N:Nat):Nat->Int->(List GStmt)->τ10->Option τ10|0=>fun _ _ _=>none|d+1=>F7 N (C1 N d)
theorem b8M(N:Nat):∀d,Sound Tryz.prog GW x9 29 (b5o fun x y=>C1 N d x.2.1 x.2.2.1 y.2.1)
 |0=>Sound.never Tryz.call29 (fun _ _=>rfl)
 |d+1=>d3A N (C1 N d) (b8M N d)
end
end
noncomputable section
noncomputable section
variable(N:Nat)
def a1H(_N:Nat)(a:UInt8):Option Bool:=br (decide (a>=97)) (br (decide (a<=122)) (some true) (br (decide (a>=48)) (br (decide (a<=57)) (some true) (some (a==95))) (some (a==95)))) (br (decide (a>=48)) (br (decide (a<=57)) (some true) (some (a==95))) (some (a==95)))
def a47(_N:Nat)(a b c:Int):Option Bool:=br (decide (b<=a)) (some (decide (a<=c))) (some false)
def a1G(b:d7)(c:Int)(k0:Option Bool)(self:ρ20)(a:Int):Option Bool:=br (decide (a<c)) (j8 (m6 b a) fun e=>j8 (a1H N e) fun g=>br (!g) (some false) (self (IntKind.i64.wrap (a+1)))) (k0)
def a2j(N:Nat)(a:d7)(b:Int)(k0:Option Bool):Nat->Int->Option Bool|0,_=>none|n+1,c=>a1G N a b k0 (a2j N a b k0 n) c
def a43(a:d7):Option Bool:=j8 (a47 N (a.length:Int) 1 40) fun b=>br (!b) (some false) (j8 (m6 a 0) fun c=>br (decide (c<97)) (some false) (j8 (m6 a 0) fun e=>br (decide (e>122)) (some false) (a2j N a (a.length:Int) (j8 (strings_Split [109,97,99,114,111,32,102,111,114,32,105,110,32,105,102,32,101,108,115,101,32,117,115,101,32,102,105,108,101,115,32,99,104,111,111,115,101] [32]) fun g=>j8 (q7 N g a) fun l=>some (!l)) N 0)))
end
end
noncomputable section
noncomputable section
variable(N:Nat)
end
end
noncomputable section
noncomputable section
variable(N:Nat)
def a45(_N:Nat)(a:GExpr)(c:Int):Option Bool:=j8 (m6 a.kids c) fun b=>j8 (br (a.kind==7) (br (b.kind==8) (some true) (br (a.kind==7) (br (c==1) (some (b.kind==7)) (some false)) (some false))) (br (a.kind==8) (br (b.kind==8) (some true) (br (a.kind==7) (br (c==1) (some (b.kind==7)) (some false)) (some false))) (br (a.kind==7) (br (c==1) (some (b.kind==7)) (some false)) (some false)))) fun e=>some e
end
end
noncomputable section
noncomputable section
variable(N:Nat)
def D6(_N:Nat)(a:List τ0×Int×Int×Bool×Int)(b:Int)(c:d7):Option Bool:=br (!a.2.2.2.1) (br (decide (a.2.1<(a.1.length:Int))) (j8 (m6 a.1 a.2.1) fun e=>br (e.1==b) (j8 (m6 a.1 a.2.1) fun g=>some (g.2.1==c)) (some false)) (some false)) (some false)
def P3(_N:Nat)(a:List τ0×Int×Int×Bool×Int):Option Int:=br (decide (a.2.1<(a.1.length:Int))) (j8 (m6 a.1 a.2.1) fun b=>some b.2.2.2) (some a.2.2.1)
def k9(m:Int)(o:d7)(a b:Int)(c:Bool)(e:Int)(g:List τ0)(l:List (Int×Int)):Option (Bool×τk):=j8 (D6 N (g,a,b,c,e) m o) fun p=>br (p) (some (true,IntKind.i64.wrap (a+1),b,c,e,g,l)) (some (false,a,b,c,e,g,l))
def w9(a b:Int)(c:Bool)(g:Int)(e:List τ0)(l:List (Int×Int)):Option (τk):=br (!c) (j8 (P3 N (e,a,b,c,g)) fun m=>some (a,b,true,m,e,l)) (some (a,b,c,g,e,l))
def x4(a e:Int)(c:Bool)(g:Int)(b:List τ0)(l:List (Int×Int)):Option (d7×τk):=br (c) (j8 (w9 N a e c g b l) fun m=>some ([],m)) (br (decide (a>=(b.length:Int))) (j8 (w9 N a e c g b l) fun o=>some ([],o)) (j8 (m6 b a) fun p=>br (p.1 !=1) (j8 (w9 N a e c g b l) fun q=>some ([],q)) (j8 (m6 b a) fun r=>j8 (a43 N r.2.1) fun t=>br (!t) (j8 (w9 N a e c g b l) fun u=>some ([],u)) (j8 (m6 b (IntKind.i64.wrap ((IntKind.i64.wrap (a+1))-1))) fun v=>some (v.2.1,IntKind.i64.wrap (a+1),e,c,g,b,l)))))
def I5(b:Int)(c:d7)(e g:Int)(l:Bool)(m:Int)(o:List τ0)(p:List (Int×Int)):Option (τk):=j8 (k9 N b c e g l m o p) fun a=>br (!a.1) (j8 (w9 N a.2.1 a.2.2.1 a.2.2.2.1 a.2.2.2.2.1 a.2.2.2.2.2.1 a.2.2.2.2.2.2) fun q=>some q) (some a.2)
def k6(a:d7)(b c:Int)(e:Bool)(g:Int)(l:List τ0)(m:List (Int×Int)):Option (τk):=j8 (I5 N 4 a b c e g l m) fun o=>some o
end
end
noncomputable section
noncomputable section
variable(N:Nat)
def J4(k0 self:ρ10)(m o:Int)(l:Bool)(p:Int)(q:List τ0)(r:List (Int×Int))(c:List d7):Option τ21:=br (!l) (br (decide ((c.length:Int)>0)) (j8 (x4 N m o l p q r) fun e=>br (Zf (c.length + [e.1].length) .str) (j8 (k9 N 4 [44] e.2.1 e.2.2.1 e.2.2.2.1 e.2.2.2.2.1 e.2.2.2.2.2.1 e.2.2.2.2.2.2) fun a=>br (!a.1) (k0 a.2.1 a.2.2.1 a.2.2.2.1 a.2.2.2.2.1 a.2.2.2.2.2.1 a.2.2.2.2.2.2 (c ++ [e.1])) (self a.2.1 a.2.2.1 a.2.2.2.1 a.2.2.2.2.1 a.2.2.2.2.2.1 a.2.2.2.2.2.2 (c ++ [e.1]))) none) (j8 (D6 N (q,m,o,l,p) 4 [41]) fun t=>br (!t) (j8 (x4 N m o l p q r) fun g=>br (Zf (c.length + [g.1].length) .str) (j8 (k9 N 4 [44] g.2.1 g.2.2.1 g.2.2.2.1 g.2.2.2.2.1 g.2.2.2.2.2.1 g.2.2.2.2.2.2) fun b=>br (!b.1) (k0 b.2.1 b.2.2.1 b.2.2.2.1 b.2.2.2.2.1 b.2.2.2.2.2.1 b.2.2.2.2.2.2 (c ++ [g.1])) (self b.2.1 b.2.2.1 b.2.2.2.1 b.2.2.2.2.1 b.2.2.2.2.2.1 b.2.2.2.2.2.2 (c ++ [g.1]))) none) (k0 m o l p q r c))) (k0 m o l p q r c)
def p7(N:Nat)(k0:ρ10):Nat->Int->Int->Bool->Int->τ6->(List (Int×Int))->τ20->Option τ21|0,_,_,_,_,_,_,_=>none|n+1,a,b,c,e,g,l,m=>J4 N k0 (p7 N k0 n) a b c e g l m
def Q3(c e:Int)(g:Bool)(l:Int)(m:List τ0)(o:List (Int×Int)):Option τ21:=j8 (k6 N [40] c e g l m o) fun a=>p7 N (fun p q r t u v w=>j8 (k6 N [41] p q r t u v) fun b=>some (b.1,b.2.1,b.2.2.1,b.2.2.2.1,b.2.2.2.2.1,b.2.2.2.2.2,w)) N a.1 a.2.1 a.2.2.1 a.2.2.2.1 a.2.2.2.2.1 a.2.2.2.2.2 []
def U4(b c e:Int)(g:Bool)(l:Int)(m:List τ0)(o:List (Int×Int)):Option (τk):=n8 (j8 (P3 N (m,c,e,g,l)) fun a=>br (Zf (o.length + [(a,b)].length) (.pr τ2 τ2)) (some (c,e,g,l,m,o ++ [(a,b)])) none) (j8 (P3 N (m,c,e,g,l)) fun a=>k7 2 (br (Zf (o.length + [(a,b)].length) (.pr τ2 τ2)) (some (c,e,g,l,m,o ++ [(a,b)])) none))
def P4(a e:Int)(c:Bool)(g:Int)(b:List τ0)(l:List (Int×Int)):Option (d7×τk):=br (c) (j8 (w9 N a e c g b l) fun m=>some ([],m)) (br (decide (a>=(b.length:Int))) (j8 (w9 N a e c g b l) fun o=>some ([],o)) (j8 (m6 b a) fun p=>br (p.1 !=2) (j8 (w9 N a e c g b l) fun q=>some ([],q)) (j8 (m6 b (IntKind.i64.wrap ((IntKind.i64.wrap (a+1))-1))) fun r=>some (r.2.1,IntKind.i64.wrap (a+1),e,c,g,b,l))))
end
end
end Go.Proofs.YtolpmfhiegpohaaGreatDoor
