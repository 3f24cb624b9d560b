/- % -/
import Derived.Test.YtolpmfhiegpohaaGreatDoorQRpN
import Derived.Test.YtolpmfhiegpohaaGreatDoorQBmBd
namespace Go.Proofs.YtolpmfhiegpohaaGreatDoor
set_option maxRecDepth 100000
set_option linter.unusedVariables false
open Go Go.RowKit
noncomputable section
noncomputable section
variable(N:Nat)
def B3(a:List GStmt):Option Int:=j8 (C9 N N a) fun b=>br (decide (b>50000)) (some (2:Int)) (j8 (x8 N N a 0) fun c=>some c)
abbrev e09:=sgM [.v τ4] [] [V0] [] (Int) fun z=>((z,()),())
abbrev d1M:AF:=e09 fun x _=>B3 N x.1
theorem d1O:Snd 22 (d1M N):=
 a4W h0 [(49,f1o fun x _=>C9 N N x.1),(50,e0H fun x _=>x8 N N x.1 x.2.1)] (Q3 (e83 N N) (Q3 (d0V N N) lkn)) Tryz.func22 rfl Tryz.call22 (d1M N) (fun x _=>x.1) (fun _ _=>rfl) N (fun _ _=>by kernel_rfl) rfl
abbrev f1u:=sgM [.v τ3] [] [V1] [] (d9) fun z=>((z,()),())
def f15(_N:Nat)(d8:ρ19)(g:List GExpr)(l:Int)(k0:τ20->Option d9)(self:Int->τ20->Option d9)(b:Int)(c:List d9):Option d9:=br (decide (b<l)) (j8 (m7 g b) fun a=>j8 (d8 (Ze a)) fun e=>br (Zf (c.length + [e].length) .str) (self (IntKind.i64.wrap (b+1)) (c ++ [e])) none) (k0 c)
def f5U(N:Nat)(d8:ρ19)(a:List GExpr)(b:Int)(k0:τ20->Option d9):Nat->Int->τ20->Option d9|0,_,_=>none|n+1,c,e=>f15 N d8 a b k0 (f5U N d8 a b k0 n) c e
def a1m(d8:ρ19)(a:List GExpr):Option d9:=f5U N d8 a (a.length:Int) (fun b=>j8 (strings_Join b [44,32]) fun c=>some c) N 0 []
abbrev f0f:=sgM [.v (.sl τ3)] [] [V1] [] (d9) fun z=>((z,()),())
abbrev e7e(d8:ρ19):AF:=f0f fun x _=>a1m N d8 x.1
abbrev f7f:SV [V1]->BV []->d9:=fun x _=>x.1
def f2m(_N:Nat)(d8:ρ19):FuncId->Option Tmp->Option AF:=fun f _=>t7 [(58,f1u fun x _=>d8 x.1),(59,e5l)] f
theorem f3g(d8:ρ19)(H1:Sound Tryz.prog GW B0G 58 (f1u fun x y=>d8 x.1)):∀f q F,f2m N d8 f q=some F->Sound Tryz.prog GW B0G f F:=fun _ _ _ h=>D7 h (Q3 (H1) (Q3 (e2l) lkn))
def f4U:Nat->Hint:=fun i=>
 match i with
 |0=>⟨[],[3,6,7,8],[1003],[3],[1003],[]⟩
 |_=>B8
abbrev f5I(d8:ρ19):Env:=mkE f4U (f2m N d8) (fun _=>false) (fun _=>false)
abbrev f5V(d8:ρ19):=P5 (f5I N d8) Tryz.f110 (e7e N d8) f7f
noncomputable abbrev f5P:Code:=cAt (C3 Tryz.f110) [true,true,false,true,false,false]
abbrev f3d:List (Nat×Sl):=[(3,.row 1003),(6,.v (.sl τ3)),(7,V0),(8,V0)]
abbrev f3c:List (Nat×Sb):=[(1003,.row 9 .str false)]
def f5O(a:List GExpr)(b c:Int)(e:List d9):St:=⟨20,[(3,.row 1003),(6,.v (.sl τ3) a),(7,.v τ2 b),(8,.v τ2 c)],[(1003,.row 9 .str false e)]⟩
def f17(_b:List GExpr)(_c:Int)(a:List d9):St:=⟨20,[(3,.row 1003)],[(1003,.row 9 .str false a)]⟩
def f8u(d8:ρ19)(a:List GExpr)(b c:Int)(e:List d9)(k:Ex->St->Option d9):Option d9:=f5U N d8 a b (fun g=>k (.exit 0) (f17 a b g)) N c e
abbrev f6Z(d8:ρ19):FV f3d->HV f3c->(Ex->St->Option d9)->Option d9:=fun x y k=>f8u N d8 x.2.1 x.2.2.1 x.2.2.2.1 y.1 k
def f4Q(d8:ρ19):Nat->Code->St->(Ex->St->Option d9)->Option d9:=fun i c=>
 match i with
 |0=>(LPc 20 f3d f3c (f6Z N d8) (fun st k=>iter (f4U 0) (q7 (f5I N d8) N c 0) N st k))
 |i=>fun st k=>iter (f4U i) (q7 (f5I N d8) N c i) N st k
theorem f60(d8:ρ19)(a:List GExpr)(b:Int)(KX:Nat->St->Option d9)(I:St->Option d9)(c:Int)(e:List d9):
  s4 (f4Q N d8) (f5I N d8) f5P 0 (f5O a b c e) (I2 (f4U 0) I KX (f5V N d8))=f15 N d8 a b (fun g=>KX 0 (f17 a b g)) (fun c e=>I (f5O a b c e)) c e:=by kernel_rfl
theorem f8b(d8:ρ19):∀x y k,(∀st,k .ret st=(f5V N d8) st)->iter (f4U 0) (q7 (f5I N d8) N f5P 0) N ⟨20,unF f3d x,unH f3c y⟩ k=f6Z N d8 x y k:=fun x y k hk=>
 s5 (S:=(Int)×τ20×Unit) (f4U 0) _ (s4 (f4Q N d8) (f5I N d8) f5P 0) (f5V N d8) (x9 _ _ N _ f5P 0 (show LoopsOk (f4Q N d8) (f5I N d8) N (f5V N d8) []from trivial)) (fun s=>f5O x.2.1 x.2.2.1 s.1 s.2.1) k hk
  (fun self s=>f15 N d8 x.2.1 x.2.2.1 (fun a=>k (.exit 0) (f17 x.2.1 x.2.2.1 a)) (fun b c=>self (b,c,())) s.1 s.2.1) (fun n s=>f5U N d8 x.2.1 x.2.2.1 (fun a=>k (.exit 0) (f17 x.2.1 x.2.2.1 a)) n s.1 s.2.1) (fun _=>rfl) (fun _ _=>rfl)
  (fun I s=>f60 N d8 x.2.1 x.2.2.1 (fun j=>k (.exit j)) I s.1 s.2.1) N (x.2.2.2.1,y.1,())
theorem f9l(d8:ρ19):a1g (f4Q N d8) (f5I N d8) N (f5V N d8) 0 f5P:=fun st k hk=>J8 20 f3d f3c _ _ (f5V N d8) (f8b N d8) _ st k hk (rfl)
theorem f8v(d8:ρ19)(x:SV [.v (.sl τ3)])(y:BV []):a0f (f5I N d8) Tryz.f110 (e7e N d8) f7f (f4Q N d8) x y=a1m N d8 x.1:=by kernel_rfl
theorem e2j(d8:ρ19)(H1:Sound Tryz.prog GW B0G 58 (f1u fun x y=>d8 x.1)):Sound Tryz.prog GW B0G 110 (e7e N d8):=
 b48 (P8 f4U (f2m N d8) _ _ (f3g N d8 H1)) Tryz.func110 rfl Tryz.call110 (e7e N d8) f7f (fun _ _=>rfl) N (f4Q N d8) (show LoopsOk (f4Q N d8) (f5I N d8) N (f5V N d8) [(0,f5P)]from⟨f9l N d8,trivial⟩) (f8v N d8)
def L6(d8:ρ19)(a:Int)(b:GExpr):Option d9:=j8 (S5 N b a) fun e=>br (e) (j8 (m7 b.kids a) fun g=>j8 (d8 g) fun c=>br (decide (([40]:d9).length+c.length<=9223372036854775807)) (br (decide (([40]++c).length+([41]:d9).length<=9223372036854775807)) (some (([40]++c) ++ [41])) none) none) (j8 (m7 b.kids a) fun l=>j8 (d8 l) fun m=>some m)
abbrev e2h:=sgM [V0,.v (.ptr τ3)] [] [V1] [] (d9) fun z=>((z,()),())
abbrev d4r(d8:ρ19):AF:=e2h fun x _=>L6 N d8 x.1 x.2.1
def d4p(d8:ρ19):FuncId->Option Tmp->Option AF:=fun f _=>t7 [(58,f1u fun x _=>d8 x.1),(108,f0x N)] f
theorem d4q(d8:ρ19)(H1:Sound Tryz.prog GW B0G 58 (f1u fun x y=>d8 x.1)):∀f q F,d4p N d8 f q=some F->Sound Tryz.prog GW B0G f F:=fun _ _ _ h=>D7 h (Q3 (H1) (Q3 (c16 N) lkn))
def e2g:Nat->Hint:=fun i=>
 match i with
 |_=>B8
abbrev e3Y(d8:ρ19):Env:=mkE e2g (d4p N d8) (fun _=>false) (fun _=>false)
theorem b6W(d8:ρ19)(H1:Sound Tryz.prog GW B0G 58 (f1u fun x y=>d8 x.1)):Sound Tryz.prog GW B0G 107 (d4r N d8):=
 b0u (e3Y N d8) (P8 e2g (d4p N d8) _ _ (d4q N d8 H1)) Tryz.func107 rfl Tryz.call107 (d4r N d8) (fun x _=>x.1) (fun _ _=>rfl) N (fun _ _=>by kernel_rfl) rfl
def a6O(_N:Nat)(d8:ρ19)(g:GExpr)(l:List d9)(m:Int)(k1:τ20->Option d9)(self:Int->τ20->Option d9)(a:Int)(c:List d9):Option d9:=br (decide (a<m)) (j8 (m7 l a) fun o=>j8 (m7 g.kids a) fun p=>j8 (N5 o) fun b=>br (decide (b.length+([58,32]:d9).length<=9223372036854775807)) (j8 (d8 p) fun e=>br (decide ((b ++ [58,32]).length+e.length<=9223372036854775807)) (br (Zf (c.length + [(b ++ [58,32])++e].length) .str) (self (IntKind.i64.wrap (a+1)) (c ++ [(b ++ [58,32])++e])) none) none) none) (k1 c)
def e5d(N:Nat)(d8:ρ19)(a:GExpr)(b:List d9)(c:Int)(k1:τ20->Option d9):Nat->Int->τ20->Option d9|0,_,_=>none|n+1,e,g=>a6O N d8 a b c k1 (e5d N d8 a b c k1 n) e g
def J4(d8:ρ19)(a:GExpr):Option d9:=br (a.kind==1) (j8 (N5 a.text) fun p=>some p) (br (a.kind==2) (j8 (strconv_Itoa a.number) fun q=>some q) (br (a.kind==3) (some a.text) (br (a.kind==4) (j8 (a1m N d8 a.kids) fun b=>br (decide (([91]:d9).length+b.length<=9223372036854775807)) (br (decide (([91]++b).length+([93]:d9).length<=9223372036854775807)) (some (([91]++b) ++ [93])) none) none) (br (a.kind==5) (j8 (a1m N d8 a.kids) fun c=>br (decide (([102,105,108,101,115,40]:d9).length+c.length<=9223372036854775807)) (br (decide (([102,105,108,101,115,40]++c).length+([41]:d9).length<=9223372036854775807)) (some (([102,105,108,101,115,40]++c) ++ [41])) none) none) (br (a.kind==7) (j8 (L6 N d8 0 (Ze a)) fun e=>br (decide (e.length+([32,43,32]:d9).length<=9223372036854775807)) (j8 (L6 N d8 1 (Ze a)) fun m=>br (decide ((e ++ [32,43,32]).length+m.length<=9223372036854775807)) (some ((e ++ [32,43,32])++m)) none) none) (br (a.kind==8) (j8 (L6 N d8 0 (Ze a)) fun g=>br (decide (g.length+([32,61,61,32]:d9).length<=9223372036854775807)) (j8 (L6 N d8 1 (Ze a)) fun o=>br (decide ((g ++ [32,61,61,32]).length+o.length<=9223372036854775807)) (some ((g ++ [32,61,61,32])++o)) none) none) (e5d N d8 (Ze a) a.keys (a.keys.length:Int) (fun r=>j8 (strings_Join r [44,32]) fun l=>br (decide (([99,104,111,111,115,101,32,123]:d9).length+l.length<=9223372036854775807)) (br (decide (([99,104,111,111,115,101,32,123]++l).length+([125]:d9).length<=9223372036854775807)) (some (([99,104,111,111,115,101,32,123]++l) ++ [125])) none) none) N 0 [])))))))
abbrev f1h:=sgM [.v τ3] [] [V1] [] (d9) fun z=>((z,()),())
abbrev e9V(d8:ρ19):AF:=f1h fun x _=>J4 N d8 x.1
abbrev e8R:SV [V1]->BV []->d9:=fun x _=>x.1
def e8P(d8:ρ19):FuncId->Option Tmp->Option AF:=fun f _=>t7 [(58,f1u fun x _=>d8 x.1),(59,e5l),(60,f1k fun x _=>N5 x.1),(107,d4r N d8),(109,f0g fun x _=>strconv_Itoa x.1),(110,e7e N d8)] f
theorem e8Q(d8:ρ19)(H1:Sound Tryz.prog GW B0G 58 (f1u fun x y=>d8 x.1)):∀f q F,e8P N d8 f q=some F->Sound Tryz.prog GW B0G f F:=fun _ _ _ h=>D7 h (Q3 (H1) (Q3 (e2l) (Q3 (e8Z) (Q3 (b6W N d8 H1) (Q3 (e62) (Q3 (e2j N d8 H1) lkn))))))
def e6f:Nat->Hint:=fun i=>
 match i with
 |1=>⟨[],[1,4,55,56,57],[1004],[4],[1004],[]⟩
 |100021=>B8
 |_=>B8
abbrev e4R(d8:ρ19):Env:=mkE e6f (e8P N d8) (fun _=>false) (fun _=>false)
abbrev e6e(d8:ρ19):=P5 (e4R N d8) Tryz.f58 (e9V N d8) e8R
noncomputable abbrev e5e:Code:=cAt (C3 Tryz.f58) [true,true,true,true,false,true,false,false]
abbrev d9W:List (Nat×Sl):=[(1,.at_ τ3),(4,.row 1004),(55,.v τ13),(56,V0),(57,V0)]
abbrev d9V:List (Nat×Sb):=[(1004,.row 9 .str false)]
def e4D(a:GExpr)(b:List d9)(c e:Int)(g:List d9):St:=⟨80,[(1,.at_ τ3 a),(4,.row 1004),(55,.v τ13 b),(56,.v τ2 c),(57,.v τ2 e)],[(1004,.row 9 .str false g)]⟩
def f4k(_b:GExpr)(_c:List d9)(_e:Int)(a:List d9):St:=⟨80,[(4,.row 1004)],[(1004,.row 9 .str false a)]⟩
def e9T(d8:ρ19)(a:GExpr)(b:List d9)(c e:Int)(g:List d9)(k:Ex->St->Option d9):Option d9:=e5d N d8 a b c (fun l=>k (.exit 1) (f4k a b c l)) N e g
abbrev e6X(d8:ρ19):FV d9W->HV d9V->(Ex->St->Option d9)->Option d9:=fun x y k=>e9T N d8 x.1 x.2.2.1 x.2.2.2.1 x.2.2.2.2.1 y.1 k
def e4E(d8:ρ19):Nat->Code->St->(Ex->St->Option d9)->Option d9:=fun i c=>
 match i with
 |1=>(LPc 80 d9W d9V (e6X N d8) (fun st k=>iter (e6f 1) (q7 (e4R N d8) N c 1) N st k))
 |i=>fun st k=>iter (e6f i) (q7 (e4R N d8) N c i) N st k
theorem e6d(d8:ρ19)(a:GExpr)(b:List d9)(c:Int)(KX:Nat->St->Option d9)(I:St->Option d9)(e:Int)(g:List d9):
  s4 (e4E N d8) (e4R N d8) e5e 1 (e4D a b c e g) (I2 (e6f 1) I KX (e6e N d8))=a6O N d8 a b c (fun l=>KX 1 (f4k a b c l)) (fun e g=>I (e4D a b c e g)) e g:=by kernel_rfl
theorem e8O(d8:ρ19):∀x y k,(∀st,k .ret st=(e6e N d8) st)->iter (e6f 1) (q7 (e4R N d8) N e5e 1) N ⟨80,unF d9W x,unH d9V y⟩ k=e6X N d8 x y k:=fun x y k hk=>
 s5 (S:=(Int)×τ20×Unit) (e6f 1) _ (s4 (e4E N d8) (e4R N d8) e5e 1) (e6e N d8) (x9 _ _ N _ e5e 1 (show LoopsOk (e4E N d8) (e4R N d8) N (e6e N d8) []from trivial)) (fun s=>e4D x.1 x.2.2.1 x.2.2.2.1 s.1 s.2.1) k hk
  (fun self s=>a6O N d8 x.1 x.2.2.1 x.2.2.2.1 (fun a=>k (.exit 1) (f4k x.1 x.2.2.1 x.2.2.2.1 a)) (fun b c=>self (b,c,())) s.1 s.2.1) (fun n s=>e5d N d8 x.1 x.2.2.1 x.2.2.2.1 (fun a=>k (.exit 1) (f4k x.1 x.2.2.1 x.2.2.2.1 a)) n s.1 s.2.1) (fun _=>rfl) (fun _ _=>rfl)
  (fun I s=>e6d N d8 x.1 x.2.2.1 x.2.2.2.1 (fun j=>k (.exit j)) I s.1 s.2.1) N (x.2.2.2.2.1,y.1,())
theorem g0b(d8:ρ19):a1g (e4E N d8) (e4R N d8) N (e6e N d8) 1 e5e:=fun st k hk=>J8 80 d9W d9V _ _ (e6e N d8) (e8O N d8) _ st k hk (rfl)
theorem e9U(d8:ρ19)(x:SV [.v τ3])(y:BV []):a0f (e4R N d8) Tryz.f58 (e9V N d8) e8R (e4E N d8) x y=J4 N d8 x.1:=by kernel_rfl
theorem e8S(d8:ρ19)(H1:Sound Tryz.prog GW B0G 58 (f1u fun x y=>d8 x.1)):Sound Tryz.prog GW B0G 58 (e9V N d8):=
 b48 (P8 e6f (e8P N d8) _ _ (e8Q N d8 H1)) Tryz.func58 rfl Tryz.call58 (e9V N d8) e8R (fun _ _=>rfl) N (e4E N d8) (show LoopsOk (e4E N d8) (e4R N d8) N (e6e N d8) [(1,e5e)]from⟨g0b N d8,trivial⟩) (e9U N d8)
def y0(N:Nat):Nat->GExpr->Option (d9)|0=>fun _=>none|d+1=>J4 N (y0 N d)
theorem f6D(N:Nat):∀d,Sound Tryz.prog GW B0G 58 (f1u fun x y=>y0 N d x.1)
 |0=>Sound.never Tryz.call58 (fun _ _=>rfl)
 |d+1=>e8S N (y0 N d) (f6D N d)
def x6(_N:Nat)(c:Int)(a:d9)(e:List UInt8):Option K1:=j8 (strings_Repeat [32,32] c) fun b=>br (decide (b.length+a.length<=9223372036854775807)) (br (decide ((b++a).length+([10]:d9).length<=9223372036854775807)) (j8 (X8 ((b++a) ++ [10]) e) fun g=>some g.2) none) none
abbrev e1s(f:SV [.box 0 0,V0,V1]->BV [.bld 88 [.row 1],.row 5 .u8 true]->Option K1):AF:={ps:=[.box 0 0,V0,V1],bs:=[.bld 88 [.row 1],.row 5 .u8 true],rs:=[],cs:=[.bld 88 [.row 1],.row 5 .u8 true],R:=List UInt8,out:=fun z=>((),((),()),z,()),f:=f}
abbrev b6i:AF:=e1s fun x y=>x6 N x.2.1 x.2.2.1 y.2.1
def c8d:Nat->Hint:=fun i=>
 match i with
 |100000=>B8
 |_=>B8
theorem e77:Snd 57 (b6i N):=
 a4W c8d [(105,e1W fun x y=>X8 x.2.1 y.2.1),(106,c2f fun x _=>strings_Repeat x.1 x.2.1)] (Q3 (c2d) (Q3 (c2g) lkn)) Tryz.func57 rfl Tryz.call57 (b6i N) (fun _ y=>y.2.1) (fun _ _=>rfl) N (fun _ _=>by kernel_rfl) rfl
abbrev e0B(f:SV [.box 0 0,V0,.v τ4]->BV [.bld 88 [.row 1],.row 5 .u8 true]->Option K1):AF:={ps:=[.box 0 0,V0,.v τ4],bs:=[.bld 88 [.row 1],.row 5 .u8 true],rs:=[],cs:=[.bld 88 [.row 1],.row 5 .u8 true],R:=List UInt8,out:=fun z=>((),((),()),z,()),f:=f}
end
end
noncomputable section
noncomputable section
variable(N:Nat)
def I9(d3:ρ13)(a:Int)(b:d9)(c:List GStmt)(e:List UInt8):Option K1:=br (decide (b.length+([32,123]:d9).length<=9223372036854775807)) (j8 (x6 N a (b ++ [32,123]) e) fun g=>j8 (d3 (IntKind.i64.wrap (a+1)) c g) fun l=>some l) none
abbrev e07(f:SV [.box 0 0,V0,V1,.v τ4]->BV [.bld 88 [.row 1],.row 5 .u8 true]->Option K1):AF:={ps:=[.box 0 0,V0,V1,.v τ4],bs:=[.bld 88 [.row 1],.row 5 .u8 true],rs:=[],cs:=[.bld 88 [.row 1],.row 5 .u8 true],R:=List UInt8,out:=fun z=>((),((),()),z,()),f:=f}
abbrev d1C(d3:ρ13):AF:=e07 fun x y=>I9 N d3 x.2.1 x.2.2.1 x.2.2.2.1 y.2.1
def d7l(d3:ρ13):FuncId->Option Tmp->Option AF:=fun f _=>t7 [(29,e0B fun x y=>d3 x.2.1 x.2.2.1 y.2.1),(57,b6i N)] f
theorem d1B(d3:ρ13)(B9:Sound Tryz.prog GW B0G 29 (e0B fun x y=>d3 x.2.1 x.2.2.1 y.2.1)):∀f q F,d7l N d3 f q=some F->Sound Tryz.prog GW B0G f F:=fun _ _ _ h=>D7 h (Q3 (B9) (Q3 (e77 N) lkn))
def c77:Nat->Hint:=fun i=>
 match i with
 |_=>B8
abbrev b7b(d3:ρ13):Env:=mkE c77 (d7l N d3) (fun _=>false) (fun _=>false)
theorem d1E(d3:ρ13)(B9:Sound Tryz.prog GW B0G 29 (e0B fun x y=>d3 x.2.1 x.2.2.1 y.2.1)):Sound Tryz.prog GW B0G 61 (d1C N d3):=
 b0u (b7b N d3) (P8 c77 (d7l N d3) _ _ (d1B N d3 B9)) Tryz.func61 rfl Tryz.call61 (d1C N d3) (fun _ y=>y.2.1) (fun _ _=>rfl) N (fun _ _=>by kernel_rfl) rfl
def e4q(d3:ρ13)(g:List (d9×GExpr))(l:Int)(k3:τ20->Option K1)(self:Int->τ20->Option K1)(b:Int)(c:List d9):Option K1:=br (decide (b<l)) (j8 (m7 g b) fun a=>br (decide (a.1.length+([32,61,32]:d9).length<=9223372036854775807)) (j8 (y0 N N (Ze a.2)) fun e=>br (decide ((a.1 ++ [32,61,32]).length+e.length<=9223372036854775807)) (br (Zf (c.length + [(a.1 ++ [32,61,32])++e].length) .str) (self (IntKind.i64.wrap (b+1)) (c ++ [(a.1 ++ [32,61,32])++e])) none) none) none) (k3 c)
def e51(N:Nat)(d3:ρ13)(a:List (d9×GExpr))(b:Int)(k3:τ20->Option K1):Nat->Int->τ20->Option K1|0,_,_=>none|n+1,c,e=>e4q N d3 a b k3 (e51 N d3 a b k3 n) c e
def a6N(d3:ρ13)(b:Int)(t:List GStmt)(u:Int)(k0:K1->Option K1)(self:Int->K1->Option K1)(c:Int)(e:List UInt8):Option K1:=br (decide (c<u)) (j8 (m7 t c) fun a=>br (a.kind==1) (br (decide (a.name.length+([32,61,32]:d9).length<=9223372036854775807)) (j8 (y0 N N (Ze a.expr)) fun g=>br (decide ((a.name ++ [32,61,32]).length+g.length<=9223372036854775807)) (br (decide (((a.name ++ [32,61,32])++g).length+([59]:d9).length<=9223372036854775807)) (j8 (x6 N b (((a.name ++ [32,61,32])++g) ++ [59]) e) fun v=>self (IntKind.i64.wrap (c+1)) v) none) none) none) (br (a.kind==2) (e51 N d3 a.args (a.args.length:Int) (fun w=>br (decide (a.name.length+([40]:d9).length<=9223372036854775807)) (j8 (strings_Join w [44,32]) fun l=>br (decide ((a.name ++ [40]).length+l.length<=9223372036854775807)) (br (decide (((a.name ++ [40])++l).length+([41,59]:d9).length<=9223372036854775807)) (j8 (x6 N b (((a.name ++ [40])++l) ++ [41,59]) e) fun B=>self (IntKind.i64.wrap (c+1)) B) none) none) none) N 0 []) (br (a.kind==6) (j8 (N5 a.text) fun m=>br (decide (([117,115,101,32]:d9).length+m.length<=9223372036854775807)) (br (decide (([117,115,101,32]++m).length+([59]:d9).length<=9223372036854775807)) (j8 (x6 N b (([117,115,101,32]++m) ++ [59]) e) fun C=>self (IntKind.i64.wrap (c+1)) C) none) none) (br (a.kind==3) (br (decide (([109,97,99,114,111,32]:d9).length+a.name.length<=9223372036854775807)) (br (decide (([109,97,99,114,111,32]++a.name).length+([40]:d9).length<=9223372036854775807)) (j8 (strings_Join a.params [44,32]) fun o=>br (decide ((([109,97,99,114,111,32]++a.name) ++ [40]).length+o.length<=9223372036854775807)) (br (decide (((([109,97,99,114,111,32]++a.name) ++ [40])++o).length+([41]:d9).length<=9223372036854775807)) (j8 (I9 N d3 b (((([109,97,99,114,111,32]++a.name) ++ [40])++o) ++ [41]) a.body e) fun D=>j8 (x6 N b [125] D) fun E=>self (IntKind.i64.wrap (c+1)) E) none) none) none) none) (br (a.kind==4) (br (decide (([102,111,114,32]:d9).length+a.name.length<=9223372036854775807)) (br (decide (([102,111,114,32]++a.name).length+([32,105,110,32]:d9).length<=9223372036854775807)) (j8 (y0 N N (Ze a.expr)) fun p=>br (decide ((([102,111,114,32]++a.name) ++ [32,105,110,32]).length+p.length<=9223372036854775807)) (j8 (I9 N d3 b ((([102,111,114,32]++a.name) ++ [32,105,110,32])++p) a.body e) fun H=>j8 (x6 N b [125] H) fun J=>self (IntKind.i64.wrap (c+1)) J) none) none) none) (br (a.kind==5) (j8 (y0 N N (Ze a.expr)) fun q=>br (decide (([105,102,32]:d9).length+q.length<=9223372036854775807)) (j8 (I9 N d3 b ([105,102,32]++q) a.body e) fun r=>br (decide ((a.els.length:Int)>0)) (j8 (I9 N d3 b [125,32,101,108,115,101] a.els r) fun K=>j8 (x6 N b [125] K) fun L=>self (IntKind.i64.wrap (c+1)) L) (j8 (x6 N b [125] r) fun O=>self (IntKind.i64.wrap (c+1)) O)) none) (self (IntKind.i64.wrap (c+1)) e))))))) (k0 e)
def e8w(N:Nat)(d3:ρ13)(a:Int)(b:List GStmt)(c:Int)(k0:K1->Option K1):Nat->Int->K1->Option K1|0,_,_=>none|n+1,e,g=>a6N N d3 a b c k0 (e8w N d3 a b c k0 n) e g
def I0(d3:ρ13)(b:Int)(a:List GStmt)(c:List UInt8):Option K1:=e8w N d3 b a (a.length:Int) (fun e=>some e) N 0 c
abbrev e3T(f:SV [.box 0 0,V0,.v τ4]->BV [.bld 88 [.row 1],.row 5 .u8 true]->Option K1):AF:={ps:=[.box 0 0,V0,.v τ4],bs:=[.bld 88 [.row 1],.row 5 .u8 true],rs:=[],cs:=[.bld 88 [.row 1],.row 5 .u8 true],R:=List UInt8,out:=fun z=>((),((),()),z,()),f:=f}
abbrev z7g(d3:ρ13):AF:=e3T fun x y=>I0 N d3 x.2.1 x.2.2.1 y.2.1
abbrev f0C:SV []->BV [.bld 88 [.row 1],.row 5 .u8 true]->K1:=fun _ y=>y.2.1
def d9v(d3:ρ13):FuncId->Option Tmp->Option AF:=fun f _=>t7 [(57,b6i N),(58,f1u fun x _=>y0 N N x.1),(59,e5l),(60,f1k fun x _=>N5 x.1),(61,d1C N d3)] f
theorem d6H(d3:ρ13)(B9:Sound Tryz.prog GW B0G 29 (e0B fun x y=>d3 x.2.1 x.2.2.1 y.2.1)):∀f q F,d9v N d3 f q=some F->Sound Tryz.prog GW B0G f F:=fun _ _ _ h=>D7 h (Q3 (e77 N) (Q3 (f6D N N) (Q3 (e2l) (Q3 (e8Z) (Q3 (d1E N d3 B9) lkn)))))
def z7h:Nat->Hint:=fun i=>
 match i with
 |0=>⟨[],[0,1,11,12,13],[0,1],[],[0,1],[]⟩
 |3=>⟨[],[0,1,7,8,11,12,13,35,36,37],[0,1,1007,1008],[0,1,7,8,11,12,13],[0,1,1007,1008],[]⟩
 |100005=>⟨[1007],[],[],[],[],[]⟩
 |100011=>⟨[1010],[],[],[],[],[]⟩
 |100013=>⟨[1007],[],[],[],[],[]⟩
 |100017=>⟨[1007],[],[],[],[],[]⟩
 |100020=>⟨[1007],[],[],[],[],[]⟩
 |100023=>⟨[1007],[],[],[],[],[]⟩
 |_=>B8
abbrev z7E(d3:ρ13):Env:=mkE z7h (d9v N d3) (fun _=>false) (fun _=>false)
abbrev z7R(d3:ρ13):=P5 (z7E N d3) Tryz.f29 (z7g N d3) f0C
noncomputable abbrev e68:Code:=cAt (C3 Tryz.f29) [true,false,false]
noncomputable abbrev e52:Code:=cAt (C3 Tryz.f29) [true,false,false,true,true,false,false,true,true,false,true,true,true,false,true,false,true,false,false]
abbrev e2v:List (Nat×Sl):=[(0,.box 0 0),(1,V0),(7,.box 1007 0),(8,.row 1008),(11,.v τ4),(12,V0),(13,V0),(35,.v (.sl τ12)),(36,V0),(37,V0)]
abbrev e2u:List (Nat×Sb):=[(0,.bld 88 [.row 1]),(1,.row 5 .u8 true),(1007,.cells [V0,V1,V1,.v τ13,.v (.sl τ12),V0,V1,V0,.v τ13,.v (.sl τ3),.v τ4,.v τ4,V0]),(1008,.row 9 .str false)]
def e5h(a:Int)(b:List GStmt)(c e:Int)(g:List (d9×GExpr))(l:Int)(m:List UInt8)(o:Int)(p q:d9)(r:List d9)(t:List (d9×GExpr))(u:Int)(w:d9)(B:Int)(C:List d9)(D:List GExpr)(E H:List GStmt)(J K:Int)(L:List d9):St:=⟨133,[(0,.box 0 0),(1,.v τ2 a),(7,.box 1007 0),(8,.row 1008),(11,.v τ4 b),(12,.v τ2 c),(13,.v τ2 e),(35,.v (.sl τ12) g),(36,.v τ2 l),(37,.v τ2 K)],[(0,.bld 88 [.row 1]),(1,.row 5 .u8 true m),(1007,.cells [.v τ2 o,.v .str p,.v .str q,.v τ13 r,.v (.sl τ12) t,.v τ2 u,.v .str w,.v τ2 B,.v τ13 C,.v (.sl τ3) D,.v τ4 E,.v τ4 H,.v τ2 J]),(1008,.row 9 .str false L)]⟩
def d9L(a:Int)(b:List GStmt)(c e:Int)(_J:List (d9×GExpr))(_K:Int)(g:List UInt8)(l:Int)(m o:d9)(p:List d9)(q:List (d9×GExpr))(r:Int)(t:d9)(u:Int)(w:List d9)(B:List GExpr)(C D:List GStmt)(E:Int)(H:List d9):St:=⟨133,[(0,.box 0 0),(1,.v τ2 a),(7,.box 1007 0),(8,.row 1008),(11,.v τ4 b),(12,.v τ2 c),(13,.v τ2 e)],[(0,.bld 88 [.row 1]),(1,.row 5 .u8 true g),(1007,.cells [.v τ2 l,.v .str m,.v .str o,.v τ13 p,.v (.sl τ12) q,.v τ2 r,.v .str t,.v τ2 u,.v τ13 w,.v (.sl τ3) B,.v τ4 C,.v τ4 D,.v τ2 E]),(1008,.row 9 .str false H)]⟩
def f0A(d3:ρ13)(c:Int)(e:List GStmt)(g l:Int)(a:List (d9×GExpr))(b:Int)(m:List UInt8)(o:Int)(p q:d9)(r:List d9)(t:List (d9×GExpr))(u:Int)(v:d9)(w:Int)(B:List d9)(C:List GExpr)(D E:List GStmt)(H J:Int)(K:List d9)(k:Ex->St->Option K1):Option K1:=e51 N d3 a b (fun L=>k (.exit 3) (d9L c e g l a b m o p q r t u v w B C D E H L)) N J K
abbrev e8y(d3:ρ13):FV e2v->HV e2u->(Ex->St->Option K1)->Option K1:=fun x y k=>let z:=y.2.2.1.2.2.2.2.2;let u:=y.2.2.1.2;f0A N d3 x.2.1 x.2.2.2.2.1 x.2.2.2.2.2.1 x.2.2.2.2.2.2.1 x.2.2.2.2.2.2.2.1 x.2.2.2.2.2.2.2.2.1 y.2.1 y.2.2.1.1 u.1 u.2.1 u.2.2.1 u.2.2.2.1 z.1 z.2.1 z.2.2.1 z.2.2.2.1 z.2.2.2.2.1 z.2.2.2.2.2.1 z.2.2.2.2.2.2.1 z.2.2.2.2.2.2.2.1 x.2.2.2.2.2.2.2.2.2.1 y.2.2.2.1 k
abbrev e2t:List (Nat×Sl):=[(0,.box 0 0),(1,V0),(11,.v τ4),(12,V0),(13,V0)]
abbrev e2s:List (Nat×Sb):=[(0,.bld 88 [.row 1]),(1,.row 5 .u8 true)]
def e5g(a:Int)(b:List GStmt)(c e:Int)(g:List UInt8):St:=⟨133,[(0,.box 0 0),(1,.v τ2 a),(11,.v τ4 b),(12,.v τ2 c),(13,.v τ2 e)],[(0,.bld 88 [.row 1]),(1,.row 5 .u8 true g)]⟩
def d9K(_b:Int)(_c:List GStmt)(_e:Int)(a:List UInt8):St:=⟨133,[],[(0,.bld 88 [.row 1]),(1,.row 5 .u8 true a)]⟩
def f0z(d3:ρ13)(a:Int)(b:List GStmt)(c e:Int)(g:List UInt8)(k:Ex->St->Option K1):Option K1:=e8w N d3 a b c (fun l=>k (.exit 0) (d9K a b c l)) N e g
abbrev e8x(d3:ρ13):FV e2t->HV e2s->(Ex->St->Option K1)->Option K1:=fun x y k=>f0z N d3 x.2.1 x.2.2.1 x.2.2.2.1 x.2.2.2.2.1 y.2.1 k
def e4r(d3:ρ13):Nat->Code->St->(Ex->St->Option K1)->Option K1:=fun i c=>
 match i with
 |0=>(LPc 133 e2t e2s (e8x N d3) (fun st k=>iter (z7h 0) (q7 (z7E N d3) N c 0) N st k))
 |3=>(LPc 133 e2v e2u (e8y N d3) (fun st k=>iter (z7h 3) (q7 (z7E N d3) N c 3) N st k))
 |i=>fun st k=>iter (z7h i) (q7 (z7E N d3) N c i) N st k
theorem e66(d3:ρ13)(g:Int)(l:List GStmt)(m o:Int)(a:List (d9×GExpr))(b:Int)(p:List UInt8)(q:Int)(r t:d9)(u:List d9)(v:List (d9×GExpr))(w:Int)(B:d9)(C:Int)(D:List d9)(E:List GExpr)(H J:List GStmt)(K:Int)(KX:Nat->St->Option K1)(I:St->Option K1)(c:Int)(e:List d9):
  s4 (e4r N d3) (z7E N d3) e52 3 (e5h g l m o a b p q r t u v w B C D E H J K c e) (I2 (z7h 3) I KX (z7R N d3))=e4q N d3 a b (fun L=>KX 3 (d9L g l m o a b p q r t u v w B C D E H J K L)) (fun c e=>I (e5h g l m o a b p q r t u v w B C D E H J K c e)) c e:=by kernel_rfl
theorem e9J(d3:ρ13):∀x y k,(∀st,k .ret st=(z7R N d3) st)->iter (z7h 3) (q7 (z7E N d3) N e52 3) N ⟨133,unF e2v x,unH e2u y⟩ k=e8y N d3 x y k:=fun x y k hk=>
 s5 (S:=(Int)×τ20×Unit) (z7h 3) _ (s4 (e4r N d3) (z7E N d3) e52 3) (z7R N d3) (x9 _ _ N _ e52 3 (show LoopsOk (e4r N d3) (z7E N d3) N (z7R N d3) []from trivial)) (fun s=>e5h x.2.1 x.2.2.2.2.1 x.2.2.2.2.2.1 x.2.2.2.2.2.2.1 x.2.2.2.2.2.2.2.1 x.2.2.2.2.2.2.2.2.1 y.2.1 y.2.2.1.1 y.2.2.1.2.1 y.2.2.1.2.2.1 y.2.2.1.2.2.2.1 y.2.2.1.2.2.2.2.1 y.2.2.1.2.2.2.2.2.1 y.2.2.1.2.2.2.2.2.2.1 y.2.2.1.2.2.2.2.2.2.2.1 y.2.2.1.2.2.2.2.2.2.2.2.1 y.2.2.1.2.2.2.2.2.2.2.2.2.1 y.2.2.1.2.2.2.2.2.2.2.2.2.2.1 y.2.2.1.2.2.2.2.2.2.2.2.2.2.2.1 y.2.2.1.2.2.2.2.2.2.2.2.2.2.2.2.1 s.1 s.2.1) k hk
  (fun self s=>e4q N d3 x.2.2.2.2.2.2.2.1 x.2.2.2.2.2.2.2.2.1 (fun a=>k (.exit 3) (d9L x.2.1 x.2.2.2.2.1 x.2.2.2.2.2.1 x.2.2.2.2.2.2.1 x.2.2.2.2.2.2.2.1 x.2.2.2.2.2.2.2.2.1 y.2.1 y.2.2.1.1 y.2.2.1.2.1 y.2.2.1.2.2.1 y.2.2.1.2.2.2.1 y.2.2.1.2.2.2.2.1 y.2.2.1.2.2.2.2.2.1 y.2.2.1.2.2.2.2.2.2.1 y.2.2.1.2.2.2.2.2.2.2.1 y.2.2.1.2.2.2.2.2.2.2.2.1 y.2.2.1.2.2.2.2.2.2.2.2.2.1 y.2.2.1.2.2.2.2.2.2.2.2.2.2.1 y.2.2.1.2.2.2.2.2.2.2.2.2.2.2.1 y.2.2.1.2.2.2.2.2.2.2.2.2.2.2.2.1 a)) (fun b c=>self (b,c,())) s.1 s.2.1) (fun n s=>e51 N d3 x.2.2.2.2.2.2.2.1 x.2.2.2.2.2.2.2.2.1 (fun a=>k (.exit 3) (d9L x.2.1 x.2.2.2.2.1 x.2.2.2.2.2.1 x.2.2.2.2.2.2.1 x.2.2.2.2.2.2.2.1 x.2.2.2.2.2.2.2.2.1 y.2.1 y.2.2.1.1 y.2.2.1.2.1 y.2.2.1.2.2.1 y.2.2.1.2.2.2.1 y.2.2.1.2.2.2.2.1 y.2.2.1.2.2.2.2.2.1 y.2.2.1.2.2.2.2.2.2.1 y.2.2.1.2.2.2.2.2.2.2.1 y.2.2.1.2.2.2.2.2.2.2.2.1 y.2.2.1.2.2.2.2.2.2.2.2.2.1 y.2.2.1.2.2.2.2.2.2.2.2.2.2.1 y.2.2.1.2.2.2.2.2.2.2.2.2.2.2.1 y.2.2.1.2.2.2.2.2.2.2.2.2.2.2.2.1 a)) n s.1 s.2.1) (fun _=>rfl) (fun _ _=>rfl)
  (fun I s=>e66 N d3 x.2.1 x.2.2.2.2.1 x.2.2.2.2.2.1 x.2.2.2.2.2.2.1 x.2.2.2.2.2.2.2.1 x.2.2.2.2.2.2.2.2.1 y.2.1 y.2.2.1.1 y.2.2.1.2.1 y.2.2.1.2.2.1 y.2.2.1.2.2.2.1 y.2.2.1.2.2.2.2.1 y.2.2.1.2.2.2.2.2.1 y.2.2.1.2.2.2.2.2.2.1 y.2.2.1.2.2.2.2.2.2.2.1 y.2.2.1.2.2.2.2.2.2.2.2.1 y.2.2.1.2.2.2.2.2.2.2.2.2.1 y.2.2.1.2.2.2.2.2.2.2.2.2.2.1 y.2.2.1.2.2.2.2.2.2.2.2.2.2.2.1 y.2.2.1.2.2.2.2.2.2.2.2.2.2.2.2.1 (fun j=>k (.exit j)) I s.1 s.2.1) N (x.2.2.2.2.2.2.2.2.2.1,y.2.2.2.1,())
theorem e97(d3:ρ13):a1g (e4r N d3) (z7E N d3) N (z7R N d3) 3 e52:=fun st k hk=>J8 133 e2v e2u _ _ (z7R N d3) (e9J N d3) _ st k hk (rfl)
theorem e65(d3:ρ13)(a:Int)(b:List GStmt)(c:Int)(KX:Nat->St->Option K1)(I:St->Option K1)(e:Int)(g:List UInt8):
  s4 (e4r N d3) (z7E N d3) e68 0 (e5g a b c e g) (I2 (z7h 0) I KX (z7R N d3))=a6N N d3 a b c (fun l=>KX 0 (d9K a b c l)) (fun e g=>I (e5g a b c e g)) e g:=by kernel_rfl
theorem e9I(d3:ρ13):∀x y k,(∀st,k .ret st=(z7R N d3) st)->iter (z7h 0) (q7 (z7E N d3) N e68 0) N ⟨133,unF e2t x,unH e2s y⟩ k=e8x N d3 x y k:=fun x y k hk=>
 s5 (S:=(Int)×K1×Unit) (z7h 0) _ (s4 (e4r N d3) (z7E N d3) e68 0) (z7R N d3) (x9 _ _ N _ e68 0 (show LoopsOk (e4r N d3) (z7E N d3) N (z7R N d3) [(3,e52)]from⟨e97 N d3,trivial⟩)) (fun s=>e5g x.2.1 x.2.2.1 x.2.2.2.1 s.1 s.2.1) k hk
  (fun self s=>a6N N d3 x.2.1 x.2.2.1 x.2.2.2.1 (fun a=>k (.exit 0) (d9K x.2.1 x.2.2.1 x.2.2.2.1 a)) (fun b c=>self (b,c,())) s.1 s.2.1) (fun n s=>e8w N d3 x.2.1 x.2.2.1 x.2.2.2.1 (fun a=>k (.exit 0) (d9K x.2.1 x.2.2.1 x.2.2.2.1 a)) n s.1 s.2.1) (fun _=>rfl) (fun _ _=>rfl)
  (fun I s=>e65 N d3 x.2.1 x.2.2.1 x.2.2.2.1 (fun j=>k (.exit j)) I s.1 s.2.1) N (x.2.2.2.2.1,y.2.1,())
theorem f1f(d3:ρ13):a1g (e4r N d3) (z7E N d3) N (z7R N d3) 0 e68:=fun st k hk=>J8 133 e2t e2s _ _ (z7R N d3) (e9I N d3) _ st k hk (rfl)
theorem f0B(d3:ρ13)(x:SV [.box 0 0,V0,.v τ4])(y:BV [.bld 88 [.row 1],.row 5 .u8 true]):a0f (z7E N d3) Tryz.f29 (z7g N d3) f0C (e4r N d3) x y=I0 N d3 x.2.1 x.2.2.1 y.2.1:=by kernel_rfl
theorem d6I(d3:ρ13)(B9:Sound Tryz.prog GW B0G 29 (e0B fun x y=>d3 x.2.1 x.2.2.1 y.2.1)):Sound Tryz.prog GW B0G 29 (z7g N d3):=
 b48 (P8 z7h (d9v N d3) _ _ (d6H N d3 B9)) Tryz.func29 rfl Tryz.call29 (z7g N d3) f0C (fun _ _=>rfl) N (e4r N d3) (show LoopsOk (e4r N d3) (z7E N d3) N (z7R N d3) [(0,e68),(3,e52)]from⟨f1f N d3,e97 N d3,trivial⟩) (f0B N d3)
def D6(N:Nat):Nat->Int->(List GStmt)->K1->Option K1|0=>fun _ _ _=>none|d+1=>I0 N (D6 N d)
theorem d0I(N:Nat):∀d,Sound Tryz.prog GW B0G 29 (e0B fun x y=>D6 N d x.2.1 x.2.2.1 y.2.1)
 |0=>Sound.never Tryz.call29 (fun _ _=>rfl)
 |d+1=>d6I N (D6 N d) (d0I N d)
end
end
noncomputable section
noncomputable section
variable(N:Nat)
def X9(_N:Nat)(a:UInt8):Option Bool:=br (decide (a>=97)) (br (decide (a<=122)) (some true) (br (decide (a>=48)) (br (decide (a<=57)) (some true) (some (a==95))) (some (a==95)))) (br (decide (a>=48)) (br (decide (a<=57)) (some true) (some (a==95))) (some (a==95)))
def a3q(_N:Nat)(a b c:Int):Option Bool:=br (decide (b<=a)) (some (decide (a<=c))) (some false)
def a3B(b:d9)(c:Int)(k0:Option Bool)(self:ρ20)(a:Int):Option Bool:=br (decide (a<c)) (j8 (m7 b a) fun e=>j8 (X9 N e) fun g=>br (!g) (some false) (self (IntKind.i64.wrap (a+1)))) (k0)
def a4y(N:Nat)(a:d9)(b:Int)(k0:Option Bool):Nat->Int->Option Bool|0,_=>none|n+1,c=>a3B N a b k0 (a4y N a b k0 n) c
def a0X(a:d9):Option Bool:=j8 (a3q N (a.length:Int) 1 40) fun b=>br (!b) (some false) (j8 (m7 a 0) fun c=>br (decide (c<97)) (some false) (j8 (m7 a 0) fun e=>br (decide (e>122)) (some false) (a4y N a (a.length:Int) (j8 (strings_Split [109,97,99,114,111,32,102,111,114,32,105,110,32,105,102,32,101,108,115,101,32,117,115,101,32,102,105,108,101,115,32,99,104,111,111,115,101] [32]) fun g=>j8 (o7 N g a) fun l=>some (!l)) N 0)))
end
end
noncomputable section
noncomputable section
variable(N:Nat)
end
end
noncomputable section
noncomputable section
variable(N:Nat)
def a4z(_N:Nat)(a:GExpr)(c:Int):Option Bool:=j8 (m7 a.kids c) fun b=>j8 (br (a.kind==7) (br (b.kind==8) (some true) (br (a.kind==7) (br (c==1) (some (b.kind==7)) (some false)) (some false))) (br (a.kind==8) (br (b.kind==8) (some true) (br (a.kind==7) (br (c==1) (some (b.kind==7)) (some false)) (some false))) (br (a.kind==7) (br (c==1) (some (b.kind==7)) (some false)) (some false)))) fun e=>some e
end
end
noncomputable section
noncomputable section
variable(N:Nat)
def F9(_N:Nat)(a:List τ0×Int×Int×Bool×Int)(b:Int)(c:d9):Option Bool:=br (!a.2.2.2.1) (br (decide (a.2.1<(a.1.length:Int))) (j8 (m7 a.1 a.2.1) fun e=>br (e.1==b) (j8 (m7 a.1 a.2.1) fun g=>some (g.2.1==c)) (some false)) (some false)) (some false)
def a2H(_N:Nat)(a:List τ0×Int×Int×Bool×Int):Option Int:=br (decide (a.2.1<(a.1.length:Int))) (j8 (m7 a.1 a.2.1) fun b=>some b.2.2.2) (some a.2.2.1)
def l5(m:Int)(o:d9)(a b:Int)(c:Bool)(e:Int)(g:List τ0)(l:List (Int×Int)):Option (Bool×Int×Int×Bool×Int×List τ0×List (Int×Int)):=j8 (F9 N (g,a,b,c,e) m o) fun p=>br (p) (some (true,IntKind.i64.wrap (a+1),b,c,e,g,l)) (some (false,a,b,c,e,g,l))
def v8(a b:Int)(c:Bool)(g:Int)(e:List τ0)(l:List (Int×Int)):Option (Int×Int×Bool×Int×List τ0×List (Int×Int)):=br (!c) (j8 (a2H N (e,a,b,c,g)) fun m=>some (a,b,true,m,e,l)) (some (a,b,c,g,e,l))
def y7(a e:Int)(c:Bool)(g:Int)(b:List τ0)(l:List (Int×Int)):Option (d9×Int×Int×Bool×Int×List τ0×List (Int×Int)):=br (c) (j8 (v8 N a e c g b l) fun m=>some ([],m)) (br (decide (a>=(b.length:Int))) (j8 (v8 N a e c g b l) fun o=>some ([],o)) (j8 (m7 b a) fun p=>br (p.1 !=1) (j8 (v8 N a e c g b l) fun q=>some ([],q)) (j8 (m7 b a) fun r=>j8 (a0X N r.2.1) fun t=>br (!t) (j8 (v8 N a e c g b l) fun u=>some ([],u)) (j8 (m7 b (IntKind.i64.wrap ((IntKind.i64.wrap (a+1))-1))) fun v=>some (v.2.1,IntKind.i64.wrap (a+1),e,c,g,b,l)))))
def M8(b:Int)(c:d9)(e g:Int)(l:Bool)(m:Int)(o:List τ0)(p:List (Int×Int)):Option (Int×Int×Bool×Int×List τ0×List (Int×Int)):=j8 (l5 N b c e g l m o p) fun a=>br (!a.1) (j8 (v8 N a.2.1 a.2.2.1 a.2.2.2.1 a.2.2.2.2.1 a.2.2.2.2.2.1 a.2.2.2.2.2.2) fun q=>some q) (some a.2)
def k8(a:d9)(b c:Int)(e:Bool)(g:Int)(l:List τ0)(m:List (Int×Int)):Option (Int×Int×Bool×Int×List τ0×List (Int×Int)):=j8 (M8 N 4 a b c e g l m) fun o=>some o
end
end
noncomputable section
noncomputable section
variable(N:Nat)
def N8(k0 self:s7)(m o:Int)(l:Bool)(p:Int)(q:List τ0)(r:List (Int×Int))(c:List d9):Option τ21:=br (!l) (br (decide ((c.length:Int)>0)) (j8 (y7 N m o l p q r) fun e=>br (Zf (c.length + [e.1].length) .str) (j8 (l5 N 4 [44] e.2.1 e.2.2.1 e.2.2.2.1 e.2.2.2.2.1 e.2.2.2.2.2.1 e.2.2.2.2.2.2) fun a=>br (!a.1) (k0 a.2.1 a.2.2.1 a.2.2.2.1 a.2.2.2.2.1 a.2.2.2.2.2.1 a.2.2.2.2.2.2 (c ++ [e.1])) (self a.2.1 a.2.2.1 a.2.2.2.1 a.2.2.2.2.1 a.2.2.2.2.2.1 a.2.2.2.2.2.2 (c ++ [e.1]))) none) (j8 (F9 N (q,m,o,l,p) 4 [41]) fun t=>br (!t) (j8 (y7 N m o l p q r) fun g=>br (Zf (c.length + [g.1].length) .str) (j8 (l5 N 4 [44] g.2.1 g.2.2.1 g.2.2.2.1 g.2.2.2.2.1 g.2.2.2.2.2.1 g.2.2.2.2.2.2) fun b=>br (!b.1) (k0 b.2.1 b.2.2.1 b.2.2.2.1 b.2.2.2.2.1 b.2.2.2.2.2.1 b.2.2.2.2.2.2 (c ++ [g.1])) (self b.2.1 b.2.2.1 b.2.2.2.1 b.2.2.2.2.1 b.2.2.2.2.2.1 b.2.2.2.2.2.2 (c ++ [g.1]))) none) (k0 m o l p q r c))) (k0 m o l p q r c)
def r8(N:Nat)(k0:s7):Nat->Int->Int->Bool->Int->τ6->(List (Int×Int))->τ20->Option τ21|0,_,_,_,_,_,_,_=>none|n+1,a,b,c,e,g,l,m=>N8 N k0 (r8 N k0 n) a b c e g l m
def a25(c e:Int)(g:Bool)(l:Int)(m:List τ0)(o:List (Int×Int)):Option τ21:=j8 (k8 N [40] c e g l m o) fun a=>r8 N (fun p q r t u v w=>j8 (k8 N [41] p q r t u v) fun b=>some (b.1,b.2.1,b.2.2.1,b.2.2.2.1,b.2.2.2.2.1,b.2.2.2.2.2,w)) N a.1 a.2.1 a.2.2.1 a.2.2.2.1 a.2.2.2.2.1 a.2.2.2.2.2 []
def a0t(b c e:Int)(g:Bool)(l:Int)(m:List τ0)(o:List (Int×Int)):Option (Int×Int×Bool×Int×List τ0×List (Int×Int)):=o9 (j8 (a2H N (m,c,e,g,l)) fun a=>br (Zf (o.length + [(a,b)].length) (.pr τ2 τ2)) (some (c,e,g,l,m,o ++ [(a,b)])) none) (j8 (a2H N (m,c,e,g,l)) fun a=>k9 2 (br (Zf (o.length + [(a,b)].length) (.pr τ2 τ2)) (some (c,e,g,l,m,o ++ [(a,b)])) none))
def a0a(a e:Int)(c:Bool)(g:Int)(b:List τ0)(l:List (Int×Int)):Option (d9×Int×Int×Bool×Int×List τ0×List (Int×Int)):=br (c) (j8 (v8 N a e c g b l) fun m=>some ([],m)) (br (decide (a>=(b.length:Int))) (j8 (v8 N a e c g b l) fun o=>some ([],o)) (j8 (m7 b a) fun p=>br (p.1 !=2) (j8 (v8 N a e c g b l) fun q=>some ([],q)) (j8 (m7 b (IntKind.i64.wrap ((IntKind.i64.wrap (a+1))-1))) fun r=>some (r.2.1,IntKind.i64.wrap (a+1),e,c,g,b,l))))
end
end
end Go.Proofs.YtolpmfhiegpohaaGreatDoor
