/- % -/
import Derived.Test.YtolpmfhiegpohaaGreatDoorQBmFa
namespace Go.Proofs.YtolpmfhiegpohaaGreatDoor
set_option maxRecDepth 100000
set_option linter.unusedVariables false
open Go Go.RowKit
noncomputable section
noncomputable section
variable(N:Nat)
def Q4(_N:Nat)(e g:Int)(a:List τ0)(b c:Int):Option τ14:=br (decide (g>=30)) (br (decide (c<0)) (some (a,b,e)) (some (a,b,c))) (some (a,b,c))
abbrev d8E(f:SV [.box 0 0,V0,V0]->BV [.cells [V2,V0,V0]]->Option τ14):AF:={ps:=[.box 0 0,V0,V0],bs:=[.cells [V2,V0,V0]],rs:=[],cs:=[.cells [V2,V0,V0]],R:=List τ0×Int×Int,out:=fun z=>((),(z.1,z.2.1,z.2.2,()),()),f:=f}
abbrev d3i:AF:=d8E fun x y=>Q4 N x.2.1 x.2.2.1 y.1.1 y.1.2.1 y.1.2.2.1
theorem b8Y:Snd 73 (d3i N):=
 a2o h0 [] T8 Tryz.func73 rfl Tryz.call73 (d3i N) (fun _ y=>(y.1.1,y.1.2.1,y.1.2.2.1)) (fun _ _=>rfl) N (fun _ _=>by kernel_rfl) rfl
def Z6(_N:Nat)(e:Int)(g:d7)(a:List τ0)(b c:Int):Option τ27:=br (decide ((a.length:Int)>0)) (j8 (m6 a 0) fun l=>br (l.1==e) (j8 (m6 a 0) fun m=>some (m.2.1==g,a,b,c)) (some (false,a,b,c))) (some (false,a,b,c))
abbrev d8Y(f:SV [.box 0 0,V0,V1]->BV [.cells [V2,V0,V0]]->Option τ27):AF:={ps:=[.box 0 0,V0,V1],bs:=[.cells [V2,V0,V0]],rs:=[V3],cs:=[.cells [V2,V0,V0]],R:=Bool×List τ0×Int×Int,out:=fun z=>((z.1,()),(z.2.1,z.2.2.1,z.2.2.2,()),()),f:=f}
abbrev d6A:AF:=d8Y fun x y=>Z6 N x.2.1 x.2.2.1 y.1.1 y.1.2.1 y.1.2.2.1
theorem d0A:Snd 134 (d6A N):=
 a2o h0 [] T8 Tryz.func134 rfl Tryz.call134 (d6A N) (fun x y=>(x.1,y.1.1,y.1.2.1,y.1.2.2.1)) (fun _ _=>rfl) N (fun _ _=>by kernel_rfl) rfl
def l4(b:Int)(c:d7)(e:List τ0)(g l:Int):Option τ27:=j8 (Z6 N b c e g l) fun a=>br (!a.1) (some (false,a.2)) (j8 (slc a.2.1 1 (a.2.1.length:Int)) fun m=>some (true,m,a.2.2))
abbrev d8J(f:SV [.box 0 0,V0,V1]->BV [.cells [V2,V0,V0]]->Option τ27):AF:={ps:=[.box 0 0,V0,V1],bs:=[.cells [V2,V0,V0]],rs:=[V3],cs:=[.cells [V2,V0,V0]],R:=Bool×List τ0×Int×Int,out:=fun z=>((z.1,()),(z.2.1,z.2.2.1,z.2.2.2,()),()),f:=f}
abbrev a8H:AF:=d8J fun x y=>l4 N x.2.1 x.2.2.1 y.1.1 y.1.2.1 y.1.2.2.1
theorem V9:Snd 74 (a8H N):=
 a2o h0 [(134,d6A N)] (L3 (d0A N) T8) Tryz.func74 rfl Tryz.call74 (a8H N) (fun x y=>(x.1,y.1.1,y.1.2.1,y.1.2.2.1)) (fun _ _=>rfl) N (fun _ _=>by kernel_rfl) rfl
def J7(_N:Nat)(a:UInt8):Option Bool:=br (decide (a>=97)) (some (decide (a<=122))) (some false)
abbrev d87:=sgM [.v .u8] [] [V3] [] (Bool) fun z=>((z,()),())
abbrev d0U:AF:=d87 fun x _=>J7 N x.1
theorem b3O:Snd 33 (d0U N):=
 a2o h0 [] T8 Tryz.func33 rfl Tryz.call33 (d0U N) (fun x _=>x.1) (fun _ _=>rfl) N (fun _ _=>by kernel_rfl) rfl
def J6(_N:Nat)(a:UInt8):Option Bool:=br (decide (a>=48)) (some (decide (a<=57))) (some false)
abbrev d86:=sgM [.v .u8] [] [V3] [] (Bool) fun z=>((z,()),())
abbrev c5h:AF:=d86 fun x _=>J6 N x.1
theorem a8V:Snd 36 (c5h N):=
 a2o h0 [] T8 Tryz.func36 rfl Tryz.call36 (c5h N) (fun x _=>x.1) (fun _ _=>rfl) N (fun _ _=>by kernel_rfl) rfl
def a0U(_N:Nat):Option τ20:=some [[109,97,99,114,111],[102,111,114],[105,110],[105,102],[101,108,115,101],[117,115,101],[102,105,108,101,115],[99,104,111,111,115,101]]
abbrev d5J(f:SV []->BV []->Option τ20):AF:={ps:=[],bs:=[],rs:=[.row 0],cs:=[.row 9 .str false],R:=List d7,out:=fun z=>(((),()),z,()),f:=f}
abbrev c7m:AF:=d5J fun _ _=>a0U N
theorem c4V:Snd 179 (c7m N):=
 a2o h0 [] T8 Tryz.func179 rfl Tryz.call179 (c7m N) (fun _ y=>y.1) (fun _ _=>rfl) N (fun _ _=>by kernel_rfl) rfl
def b2F(_N:Nat)(b:List d7)(c:d7)(e:Int)(k0:Option Int)(self:ρ21)(a:Int):Option Int:=br (decide (a<e)) (j8 (m6 b a) fun g=>br (c==g) (some a) (self (IntKind.i64.wrap (a+1)))) (k0)
def c2Z(N:Nat)(a:List d7)(b:d7)(c:Int)(k0:Option Int):Nat->Int->Option Int|0,_=>none|n+1,e=>b2F N a b c k0 (c2Z N a b c k0 n) e
def G8(a:List d7)(b:d7):Option Int:=c2Z N a b (a.length:Int) (some (-1:Int)) N 0
abbrev d7A:=sgM [.v N3,V1] [] [V0] [] (Int) fun z=>((z,()),())
abbrev c7t:AF:=d7A fun x _=>G8 N x.1 x.2.1
abbrev c7u:SV [V0]->BV []->Int:=fun x _=>x.1
def d4k(_N:Nat):FuncId->Option Tmp->Option AF:=fun f _=>lkF [] f
theorem c7s:X8 (d4k N):=fun _ _ _ h=>B9 h T8
def c41:Nat->Hint:=fun i=>
 match i with
 |0=>⟨[],[0,1,7,8],[],[],[],[]⟩
 |_=>y5
abbrev b4e:Env:=mkE c41 (d4k N) FF FF
noncomputable abbrev b5n:Code:=cAt (B3 Tryz.f222) [true,false,true,false,false]
abbrev c0L:=L9 (b4e N) Tryz.f222 (c7t N) c7u
abbrev a73:List (Nat×Sl):=[(0,.v N3),(1,V1),(7,V0),(8,V0)]
abbrev a71:List (Nat×Sb):=[]
def b2G(a:List d7)(b:d7)(c e:Int):St:=⟨19,[(0,.v N3 a),(1,.v .str b),(7,.v τ2 c),(8,.v τ2 e)],[]⟩
def a5Z(_a:List d7)(_b:d7)(_c:Int):St:=⟨19,[],[]⟩
def d2x(a:List d7)(b:d7)(c e:Int)(k:Ex->St->Option Int):Option Int:=c2Z N a b c (k (.exit 0) (a5Z a b c)) N e
abbrev c20:FV a73->HV a71->(Ex->St->Option Int)->Option Int:=fun x _ k=>d2x N x.1 x.2.1 x.2.2.1 x.2.2.2.1 k
def b2H:Nat->Code->St->(Ex->St->Option Int)->Option Int:=fun i c=>
 match i with
 |0=>(LPc 19 a73 a71 (c20 N) (fun st k=>iter (c41 0) (o7 (b4e N) N c 0) N st k))
 |i=>fun st k=>iter (c41 i) (o7 (b4e N) N c i) N st k
theorem c0K(a:List d7)(b:d7)(c:Int)(KX:Nat->St->Option Int)(I:St->Option Int)(e:Int):
  p8 (b2H N) (b4e N) b5n 0 (b2G a b c e) (F9 (c41 0) I KX (c0L N))=b2F N a b c (KX 0 (a5Z a b c)) (fun e=>I (b2G a b c e)) e:=by kernel_rfl
theorem c7r:∀x y k,(∀st,k .ret st=(c0L N) st)->iter (c41 0) (o7 (b4e N) N b5n 0) N ⟨19,unF a73 x,unH a71 y⟩ k=c20 N x y k:=fun x _ k hk=>
 p9 (S:=(Int)×Unit) (c41 0) _ (p8 (b2H N) (b4e N) b5n 0) (c0L N) (u9 _ _ N _ b5n 0 (show LoopsOk (b2H N) (b4e N) N (c0L N) []from trivial)) (fun s=>b2G x.1 x.2.1 x.2.2.1 s.1) k hk
  (fun self s=>b2F N x.1 x.2.1 x.2.2.1 (k (.exit 0) (a5Z x.1 x.2.1 x.2.2.1)) (fun a=>self (a,())) s.1) (fun n s=>c2Z N x.1 x.2.1 x.2.2.1 (k (.exit 0) (a5Z x.1 x.2.1 x.2.2.1)) n s.1) (fun _=>rfl) (fun _ _=>rfl)
  (fun I s=>c0K N x.1 x.2.1 x.2.2.1 (fun j=>k (.exit j)) I s.1) N (x.2.2.2.1,())
theorem d5P:Z1 (b2H N) (b4e N) N (c0L N) 0 b5n:=fun st k hk=>H3 19 a73 a71 _ _ (c0L N) (c7r N) _ st k hk (rfl)
theorem d2y(x:SV [.v N3,V1])(y:BV []):V4 (b4e N) Tryz.f222 (c7t N) c7u (b2H N) x y=G8 N x.1 x.2.1:=by kernel_rfl
theorem c7v:Snd 222 (c7t N):=
 a9J (c7s N) Tryz.func222 rfl Tryz.call222 (c7t N) c7u (fun _ _=>rfl) N (b2H N) (show LoopsOk (b2H N) (b4e N) N (c0L N) [(0,b5n)]from⟨d5P N,trivial⟩) (d2y N)
def q7(a:List d7)(b:d7):Option Bool:=j8 (G8 N a b) fun c=>some (decide (c>=0))
abbrev e0B:=sgM [.v N3,V1] [] [V3] [] (Bool) fun z=>((z,()),())
abbrev z4g:AF:=e0B fun x _=>q7 N x.1 x.2.1
theorem d27:Snd 178 (z4g N):=
 a2o h0 [(222,c7t N)] (L3 (c7v N) T8) Tryz.func178 rfl Tryz.call178 (z4g N) (fun x _=>x.1) (fun _ _=>rfl) N (fun _ _=>by kernel_rfl) rfl
def b3R(b:d7)(c:Int)(k0:Option Bool)(self:ρ20)(a:Int):Option Bool:=br (decide (a<c)) (j8 (m6 b a) fun e=>j8 (J7 N e) fun g=>br (!g) (j8 (m6 b a) fun l=>j8 (J6 N l) fun m=>br (!m) (j8 (m6 b a) fun o=>br (o !=95) (some false) (self (IntKind.i64.wrap (a+1)))) (self (IntKind.i64.wrap (a+1)))) (self (IntKind.i64.wrap (a+1)))) (k0)
def b9c(N:Nat)(a:d7)(b:Int)(k0:Option Bool):Nat->Int->Option Bool|0,_=>none|n+1,c=>b3R N a b k0 (b9c N a b k0 n) c
def C7(a:d7):Option Bool:=br (decide ((a.length:Int)<1)) (some false) (br (decide ((a.length:Int)>40)) (some false) (j8 (m6 a 0) fun b=>j8 (J7 N b) fun c=>br (!c) (some false) (b9c N a (a.length:Int) (j8 (a0U N) fun e=>j8 (q7 N e a) fun g=>some (!g)) N 0)))
abbrev d4B:=sgM [V1] [] [V3] [] (Bool) fun z=>((z,()),())
abbrev c1D:AF:=d4B fun x _=>C7 N x.1
abbrev d04:SV [V3]->BV []->Bool:=fun x _=>x.1
def d4A:FuncId->Option Tmp->Option AF:=fun f _=>lkF [(33,d0U N),(36,c5h N),(178,z4g N),(179,c7m N)] f
theorem d03:X8 (d4A N):=fun _ _ _ h=>B9 h (L3 (b3O N) (L3 (a8V N) (L3 (d27 N) (L3 (c4V N) T8))))
def c5i:Nat->Hint:=fun i=>
 match i with
 |0=>⟨[],[0,19,20],[],[0],[],[]⟩
 |_=>y5
abbrev b4o:Env:=mkE c5i (d4A N) FF FF
noncomputable abbrev b5G:Code:=cAt (B3 Tryz.f135) [true,true,false,true,false,false]
abbrev c1C:=L9 (b4o N) Tryz.f135 (c1D N) d04
abbrev a8Z:List (Nat×Sl):=[(0,V1),(19,V0),(20,V0)]
abbrev a8Y:List (Nat×Sb):=[]
def b3S(a:d7)(b c:Int):St:=⟨46,[(0,.v .str a),(19,.v τ2 b),(20,.v τ2 c)],[]⟩
def a6p(a:d7)(_b:Int):St:=⟨46,[(0,.v .str a)],[]⟩
def d3H(a:d7)(b c:Int)(k:Ex->St->Option Bool):Option Bool:=b9c N a b (k (.exit 0) (a6p a b)) N c
abbrev c3N:FV a8Z->HV a8Y->(Ex->St->Option Bool)->Option Bool:=fun x _ k=>d3H N x.1 x.2.1 x.2.2.1 k
def b3T:Nat->Code->St->(Ex->St->Option Bool)->Option Bool:=fun i c=>
 match i with
 |0=>(LPc 46 a8Z a8Y (c3N N) (fun st k=>iter (c5i 0) (o7 (b4o N) N c 0) N st k))
 |i=>fun st k=>iter (c5i i) (o7 (b4o N) N c i) N st k
theorem c1B(a:d7)(b:Int)(KX:Nat->St->Option Bool)(I:St->Option Bool)(c:Int):
  p8 (b3T N) (b4o N) b5G 0 (b3S a b c) (F9 (c5i 0) I KX (c1C N))=b3R N a b (KX 0 (a6p a b)) (fun c=>I (b3S a b c)) c:=by kernel_rfl
theorem d02:∀x y k,(∀st,k .ret st=(c1C N) st)->iter (c5i 0) (o7 (b4o N) N b5G 0) N ⟨46,unF a8Z x,unH a8Y y⟩ k=c3N N x y k:=fun x _ k hk=>
 p9 (S:=(Int)×Unit) (c5i 0) _ (p8 (b3T N) (b4o N) b5G 0) (c1C N) (u9 _ _ N _ b5G 0 (show LoopsOk (b3T N) (b4o N) N (c1C N) []from trivial)) (fun s=>b3S x.1 x.2.1 s.1) k hk
  (fun self s=>b3R N x.1 x.2.1 (k (.exit 0) (a6p x.1 x.2.1)) (fun a=>self (a,())) s.1) (fun n s=>b9c N x.1 x.2.1 (k (.exit 0) (a6p x.1 x.2.1)) n s.1) (fun _=>rfl) (fun _ _=>rfl)
  (fun I s=>c1B N x.1 x.2.1 (fun j=>k (.exit j)) I s.1) N (x.2.2.1,())
theorem d6J:Z1 (b3T N) (b4o N) N (c1C N) 0 b5G:=fun st k hk=>H3 46 a8Z a8Y _ _ (c1C N) (d02 N) _ st k hk (rfl)
theorem d3I(x:SV [V1])(y:BV []):V4 (b4o N) Tryz.f135 (c1D N) d04 (b3T N) x y=C7 N x.1:=by kernel_rfl
theorem a80:Snd 135 (c1D N):=
 a9J (d03 N) Tryz.func135 rfl Tryz.call135 (c1D N) d04 (fun _ _=>rfl) N (b3T N) (show LoopsOk (b3T N) (b4o N) N (c1C N) [(0,b5G)]from⟨d6J N,trivial⟩) (d3I N)
def m8(a:List τ0)(b c:Int):Option (Except Int τ23):=br ((a.length:Int)==0) (l8 (o9 N a b c) fun e=>j8 (m6 e.1 0) fun m=>j8 (slc e.1 1 (e.1.length:Int)) fun o=>some (.ok (m.2.1,o,e.2))) (j8 (m6 a 0) fun p=>br (p.1 !=1) (l8 (o9 N a b c) fun g=>j8 (m6 g.1 0) fun q=>j8 (slc g.1 1 (g.1.length:Int)) fun r=>some (.ok (q.2.1,r,g.2))) (j8 (m6 a 0) fun t=>j8 (C7 N t.2.1) fun u=>br (!u) (l8 (o9 N a b c) fun l=>j8 (m6 l.1 0) fun v=>j8 (slc l.1 1 (l.1.length:Int)) fun w=>some (.ok (v.2.1,w,l.2))) (j8 (m6 a 0) fun B=>j8 (slc a 1 (a.length:Int)) fun C=>some (.ok (B.2.1,C,b,c)))))
abbrev d8G(f:SV [.box 0 0]->BV [.cells [V2,V0,V0]]->Option (Except Int τ23)):PF:={ps:=[.box 0 0],bs:=[.cells [V2,V0,V0]],rs:=[V1],cs:=[.cells [V2,V0,V0]],R:=d7×List τ0×Int×Int,out:=fun z=>((z.1,()),(z.2.1,z.2.2.1,z.2.2.2,()),()),f:=f}
abbrev b81:PF:=d8G fun _ y=>m8 N y.1.1 y.1.2.1 y.1.2.2.1
def c9Y:FuncId->Option Tmp->Option AF:=fun f _=>lkF [(135,c1D N)] f
theorem c9Z:X8 (c9Y N):=fun _ _ _ h=>B9 h (L3 (a80 N) T8)
def c3A:FuncId->Option Tmp->Option PF:=fun f _=>
 match f with
  |136=>some (c5b N)
  |_=>none
theorem c90:∀f q F,c3A N f q=some F->SoundP Tryz.prog GW x9 B2 f F:=by
 intro f q F h;unfold c3A at h;split at h
 ·cases h;exact a5w N
 ·cases h
def d8F:Nat->Hint:=fun i=>
 match i with
 |_=>y5
abbrev e0G:Env:=a08 d8F (c9Y N) (c3A N) (fun _=>false) (fun _=>false)
theorem a3r:SoundP Tryz.prog GW x9 B2 75 (b81 N):=
 a0V (e0G N) (H9 d8F (c9Y N) (c3A N) _ _ (c9Z N) (c90 N)) Tryz.func75 rfl Tryz.call75 (b81 N) (fun x y=>(x.1,y.1.1,y.1.2.1,y.1.2.2.1)) (fun _ _=>rfl) N (fun _ _=>by kernel_rfl) rfl
def j7(b:d7)(c:List τ0)(e g:Int):Option (Except Int τ14):=j8 (l4 N 4 b c e g) fun a=>br (!a.1) (l8 (o9 N a.2.1 a.2.2.1 a.2.2.2) fun l=>some (.ok l)) (some (.ok a.2))
abbrev d8I(f:SV [.box 0 0,V1]->BV [.cells [V2,V0,V0]]->Option (Except Int τ14)):PF:={ps:=[.box 0 0,V1],bs:=[.cells [V2,V0,V0]],rs:=[],cs:=[.cells [V2,V0,V0]],R:=List τ0×Int×Int,out:=fun z=>((),(z.1,z.2.1,z.2.2,()),()),f:=f}
abbrev a8G:PF:=d8I fun x y=>j7 N x.2.1 y.1.1 y.1.2.1 y.1.2.2.1
def c91:FuncId->Option Tmp->Option AF:=fun f _=>lkF [(74,a8H N)] f
theorem c93:X8 (c91 N):=fun _ _ _ h=>B9 h (L3 (V9 N) T8)
def c3B:FuncId->Option Tmp->Option PF:=fun f _=>
 match f with
  |136=>some (c5b N)
  |_=>none
theorem c94:∀f q F,c3B N f q=some F->SoundP Tryz.prog GW x9 B2 f F:=by
 intro f q F h;unfold c3B at h;split at h
 ·cases h;exact a5w N
 ·cases h
def d8H:Nat->Hint:=fun i=>
 match i with
 |_=>y5
abbrev e0H:Env:=a08 d8H (c91 N) (c3B N) (fun _=>false) (fun _=>false)
theorem V8:SoundP Tryz.prog GW x9 B2 76 (a8G N):=
 a0V (e0H N) (H9 d8H (c91 N) (c3B N) _ _ (c93 N) (c94 N)) Tryz.func76 rfl Tryz.call76 (a8G N) (fun _ y=>(y.1.1,y.1.2.1,y.1.2.2.1)) (fun _ _=>rfl) N (fun _ _=>by kernel_rfl) rfl
def C0(b:Int)(c e:d7)(g:Int)(l:d7)(m o:Int)(p:List τ0)(q r:Int):Option (Except Int τ18):=n8 (l8 (m8 N p q r) fun a=>br (Zf [a.1].length .str) (some (.ok (b,c,e,g,l,m,o,a.2.1,a.2.2.1,a.2.2.2,[a.1]))) none) (n8 (l8 (m8 N p q r) fun a=>br (Zf [a.1].length .str) (some (.ok (b,c,e,g,l,m,o,a.2.1,a.2.2.1,a.2.2.2,[a.1]))) none) (l8 (m8 N p q r) fun a=>k7 1 (br (Zf [a.1].length .str) (some (.ok (b,c,e,g,l,m,o,a.2.1,a.2.2.1,a.2.2.2,[a.1]))) none)))
abbrev d7E(f:SV [.box 0 0,.box 1 0]->BV [.cells [V0,V1,V1,.nilS,.nilS,V0,V1,V0,.nilS,.nilS,.nilS,.nilS,V0],.cells [.box 2 0],.cells [V2,V0,V0]]->Option (Except Int τ18)):PF:={ps:=[.box 0 0,.box 1 0],bs:=[.cells [V0,V1,V1,.nilS,.nilS,V0,V1,V0,.nilS,.nilS,.nilS,.nilS,V0],.cells [.box 2 0],.cells [V2,V0,V0]],rs:=[],cs:=[.cells [V0,V1,V1,.row 3,.nilS,V0,V1,V0,.nilS,.nilS,.nilS,.nilS,V0],.cells [.box 2 0],.cells [V2,V0,V0],.row 9 .str false],R:=Int×d7×d7×Int×d7×Int×Int×List τ0×Int×Int×List d7,out:=fun z=>((),(z.1,z.2.1,z.2.2.1,(),(),z.2.2.2.1,z.2.2.2.2.1,z.2.2.2.2.2.1,(),(),(),(),z.2.2.2.2.2.2.1,()),((),()),(z.2.2.2.2.2.2.2.1,z.2.2.2.2.2.2.2.2.1,z.2.2.2.2.2.2.2.2.2.1,()),z.2.2.2.2.2.2.2.2.2.2,()),f:=f}
abbrev d5Q:PF:=d7E fun _ y=>let z:=y.1.2.2.2.2.2;C0 N y.1.1 y.1.2.1 y.1.2.2.1 z.1 z.2.1 z.2.2.1 z.2.2.2.2.2.2.2.1 y.2.2.1.1 y.2.2.1.2.1 y.2.2.1.2.2.1
def c7x(_N:Nat):FuncId->Option Tmp->Option AF:=fun f _=>lkF [] f
theorem c7y:X8 (c7x N):=fun _ _ _ h=>B9 h T8
def c22:FuncId->Option Tmp->Option PF:=fun f _=>
 match f with
  |75=>some (b81 N)
  |_=>none
theorem c7z:∀f q F,c22 N f q=some F->SoundP Tryz.prog GW x9 B2 f F:=by
 intro f q F h;unfold c22 at h;split at h
 ·cases h;exact a3r N
 ·cases h
def d7D:Nat->Hint:=fun i=>
 match i with
 |100000=>⟨[],[1,2],[],[],[],[]⟩
 |_=>y5
abbrev e0i:Env:=a08 d7D (c7x N) (c22 N) (fun _=>false) (fun _=>false)
theorem c7A:SoundP Tryz.prog GW x9 B2 78 (d5Q N):=
 a0V (e0i N) (H9 d7D (c7x N) (c22 N) _ _ (c7y N) (c7z N)) Tryz.func78 rfl Tryz.call78 (d5Q N) (fun _ y=>let z:=y.1.2.2.2.2.2;(y.1.1,y.1.2.1,y.1.2.2.1,z.1,z.2.1,z.2.2.1,z.2.2.2.2.2.2.2.1,y.2.2.1.1,y.2.2.1.2.1,y.2.2.1.2.2.1,y.2.2.2.1)) (fun _ _=>rfl) N (fun _ _=>by kernel_rfl) rfl
def C9(c:Int)(e g:d7)(l:Int)(m:d7)(o p:Int)(b:List d7)(q:List τ0)(r t:Int):Option (Except Int τ19):=n8 (l8 (m8 N q r t) fun a=>br (Zf (b.length + [a.1].length) .str) (some (.ok (c,e,g,l,m,o,p,b ++ [a.1],a.2))) none) (n8 (l8 (m8 N q r t) fun a=>br (Zf (b.length + [a.1].length) .str) (some (.ok (c,e,g,l,m,o,p,b ++ [a.1],a.2))) none) (l8 (m8 N q r t) fun a=>k7 1 (br (Zf (b.length + [a.1].length) .str) (some (.ok (c,e,g,l,m,o,p,b ++ [a.1],a.2))) none)))
abbrev e0O(f:SV [.box 0 0,.box 1 0]->BV [.cells [V0,V1,V1,.row 2,.nilS,V0,V1,V0,.nilS,.nilS,.nilS,.nilS,V0],.cells [.box 3 0],.row 9 .str false,.cells [V2,V0,V0]]->Option (Except Int τ19)):PF:={ps:=[.box 0 0,.box 1 0],bs:=[.cells [V0,V1,V1,.row 2,.nilS,V0,V1,V0,.nilS,.nilS,.nilS,.nilS,V0],.cells [.box 3 0],.row 9 .str false,.cells [V2,V0,V0]],rs:=[],cs:=[.cells [V0,V1,V1,.row 2,.nilS,V0,V1,V0,.nilS,.nilS,.nilS,.nilS,V0],.cells [.box 3 0],.row 9 .str false,.cells [V2,V0,V0]],R:=Int×d7×d7×Int×d7×Int×Int×List d7×List τ0×Int×Int,out:=fun z=>((),(z.1,z.2.1,z.2.2.1,(),(),z.2.2.2.1,z.2.2.2.2.1,z.2.2.2.2.2.1,(),(),(),(),z.2.2.2.2.2.2.1,()),((),()),z.2.2.2.2.2.2.2.1,(z.2.2.2.2.2.2.2.2.1,z.2.2.2.2.2.2.2.2.2.1,z.2.2.2.2.2.2.2.2.2.2,()),()),f:=f}
abbrev z6g:PF:=e0O fun _ y=>let z:=y.1.2.2.2.2.2;let u:=y.2.2.2.1;C9 N y.1.1 y.1.2.1 y.1.2.2.1 z.1 z.2.1 z.2.2.1 z.2.2.2.2.2.2.2.1 y.2.2.1 u.1 u.2.1 u.2.2.1
def d6x(_N:Nat):FuncId->Option Tmp->Option AF:=fun f _=>lkF [] f
theorem d3n:X8 (d6x N):=fun _ _ _ h=>B9 h T8
def d3o:FuncId->Option Tmp->Option PF:=fun f _=>
 match f with
  |75=>some (b81 N)
  |_=>none
theorem d3p:∀f q F,d3o N f q=some F->SoundP Tryz.prog GW x9 B2 f F:=by
 intro f q F h;unfold d3o at h;split at h
 ·cases h;exact a3r N
 ·cases h
def z6h:Nat->Hint:=fun i=>
 match i with
 |100000=>⟨[],[1,2],[],[],[],[]⟩
 |_=>y5
abbrev z6E:Env:=a08 z6h (d6x N) (d3o N) (fun _=>false) (fun _=>false)
theorem d3q:SoundP Tryz.prog GW x9 B2 78 (z6g N):=
 a0V (z6E N) (H9 z6h (d6x N) (d3o N) _ _ (d3n N) (d3p N)) Tryz.func78 rfl Tryz.call78 (z6g N) (fun _ y=>let z:=y.1.2.2.2.2.2;let u:=y.2.2.2.1;(y.1.1,y.1.2.1,y.1.2.2.1,z.1,z.2.1,z.2.2.1,z.2.2.2.2.2.2.2.1,y.2.2.1,u.1,u.2.1,u.2.2.1)) (fun _ _=>rfl) N (fun _ _=>by kernel_rfl) rfl
end
end
noncomputable section
noncomputable section
variable(N:Nat)
def b3y(k0 self:ρ5)(r:List τ0)(t u c:Int)(e g:d7)(l:Int)(m:d7)(o p:Int)(q:List d7):Option (Except Int τ4):=j8 (l4 N 4 [44] r t u) fun b=>br (b.1) (l8 (C9 N c e g l m o p q b.2.1 b.2.2.1 b.2.2.2) fun a=>self a.2.2.2.2.2.2.2.2.1 a.2.2.2.2.2.2.2.2.2.1 a.2.2.2.2.2.2.2.2.2.2 a.1 a.2.1 a.2.2.1 a.2.2.2.1 a.2.2.2.2.1 a.2.2.2.2.2.1 a.2.2.2.2.2.2.1 a.2.2.2.2.2.2.2.1) (k0 b.2.1 b.2.2.1 b.2.2.2 c e g l m o p q)
def b3x(N:Nat)(k0:ρ5):Nat->τ6->Int->Int->Int->d7->d7->Int->d7->Int->Int->τ20->Option (Except Int τ4)|0,_,_,_,_,_,_,_,_,_,_,_=>none|n+1,a,b,c,e,g,l,m,o,p,q,r=>b3y N k0 (b3x N k0 n) a b c e g l m o p q r
def N9(e:d7)(U:Bool)(Q:List τ0)(R T g:Int)(l m:d7)(o:Int)(p:d7)(q r:Int):Option (Except Int τ4):=br (U) (j8 (l4 N 4 e Q R T) fun c=>br (c.1) (some (.ok (c.2.1,c.2.2.1,c.2.2.2,g,l,m,[],o,p,q,r))) (l8 (C0 N g l m o p q r c.2.1 c.2.2.1 c.2.2.2) fun a=>b3x N (fun t u v w B C D E H J K=>l8 (j7 N e t u v) fun L=>some (.ok (L.1,L.2.1,L.2.2,w,B,C,K,D,E,H,J))) N a.2.2.2.2.2.2.2.1 a.2.2.2.2.2.2.2.2.1 a.2.2.2.2.2.2.2.2.2.1 a.1 a.2.1 a.2.2.1 a.2.2.2.1 a.2.2.2.2.1 a.2.2.2.2.2.1 a.2.2.2.2.2.2.1 a.2.2.2.2.2.2.2.2.2.2)) (l8 (C0 N g l m o p q r Q R T) fun b=>b3x N (fun t u v w B C D E H J K=>l8 (j7 N e t u v) fun O=>some (.ok (O.1,O.2.1,O.2.2,w,B,C,K,D,E,H,J))) N b.2.2.2.2.2.2.2.1 b.2.2.2.2.2.2.2.2.1 b.2.2.2.2.2.2.2.2.2.1 b.1 b.2.1 b.2.2.1 b.2.2.2.1 b.2.2.2.2.1 b.2.2.2.2.2.1 b.2.2.2.2.2.2.1 b.2.2.2.2.2.2.2.2.2.2)
abbrev d8U(f:SV [.box 0 0,V1,V3,.fnc 78 [1,2]]->BV [.cells [V2,V0,V0],.cells [V0,V1,V1,.nilS,.nilS,V0,V1,V0,.nilS,.nilS,.nilS,.nilS,V0],.cells [.box 0 0]]->Option (Except Int τ4)):PF:={ps:=[.box 0 0,V1,V3,.fnc 78 [1,2]],bs:=[.cells [V2,V0,V0],.cells [V0,V1,V1,.nilS,.nilS,V0,V1,V0,.nilS,.nilS,.nilS,.nilS,V0],.cells [.box 0 0]],rs:=[],cs:=[.cells [V2,V0,V0],.cells [V0,V1,V1,.v N3,.nilS,V0,V1,V0,.nilS,.nilS,.nilS,.nilS,V0],.cells [.box 0 0]],R:=List τ0×Int×Int×Int×d7×d7×List d7×Int×d7×Int×Int,out:=fun z=>((),(z.1,z.2.1,z.2.2.1,()),(z.2.2.2.1,z.2.2.2.2.1,z.2.2.2.2.2.1,z.2.2.2.2.2.2.1,(),z.2.2.2.2.2.2.2.1,z.2.2.2.2.2.2.2.2.1,z.2.2.2.2.2.2.2.2.2.1,(),(),(),(),z.2.2.2.2.2.2.2.2.2.2,()),((),()),()),f:=f}
abbrev d0o:PF:=d8U fun x y=>let z:=y.2.1.2.2.2.2.2;N9 N x.2.1 x.2.2.1 y.1.1 y.1.2.1 y.1.2.2.1 y.2.1.1 y.2.1.2.1 y.2.1.2.2.1 z.1 z.2.1 z.2.2.1 z.2.2.2.2.2.2.2.1
abbrev d0q:SV []->BV [.cells [V2,V0,V0],.cells [V0,V1,V1,.v N3,.nilS,V0,V1,V0,.nilS,.nilS,.nilS,.nilS,V0],.cells [.box 0 0]]->τ4:=fun _ y=>let z:=y.2.1.2.2.2.2.2;(y.1.1,y.1.2.1,y.1.2.2.1,y.2.1.1,y.2.1.2.1,y.2.1.2.2.1,y.2.1.2.2.2.1,z.1,z.2.1,z.2.2.1,z.2.2.2.2.2.2.2.1)
abbrev d4w:SV []->BV [.cells [V2,V0,V0],.cells [V0,V1,V1,.v N3,.nilS,V0,V1,V0,.nilS,.nilS,.nilS,.nilS,V0],.cells [.box 0 0]]->Except Int τ4:=fun x y=> .ok (d0q x y)
def d0m:FuncId->Option Tmp->Option AF:=fun f _=>lkF [(74,a8H N)] f
theorem d0n:X8 (d0m N):=fun _ _ _ h=>B9 h (L3 (V9 N) T8)
def c3G:FuncId->Option Tmp->Option PF:=fun f q=>
 match f with
  |76=>some (a8G N)
  |78=>match q with|some 15=>some (d5Q N)|some 19=>some (z6g N)|_=>none
  |_=>none
theorem d0p:∀f q F,c3G N f q=some F->SoundP Tryz.prog GW x9 B2 f F:=by
 intro f q F h;unfold c3G at h;split at h
 ·cases h;exact V8 N
 ·split at h
  ·cases h;exact c7A N
  ·cases h;exact d3q N
  ·cases h
 ·cases h
def c1n:Nat->Hint:=fun i=>
 match i with
 |0=>⟨[],[0,1,3],[0,1,2,101500],[0,1],[0,1,2,101500],[]⟩
 |_=>y5
abbrev b3w:Env:=a08 c1n (d0m N) (c3G N) (fun _=>false) (fun _=>false)
abbrev c1m:=L9 (b3w N) Tryz.f77 (PF.tf (d0o N)) d4w
noncomputable abbrev X6:Code:=cAt (B3 Tryz.f77) [true,true,false,false,false]
abbrev a8K:List (Nat×Sl):=[(0,.box 0 0),(1,V1),(3,.fnc 78 [1,2])]
abbrev a8J:List (Nat×Sb):=[(0,.cells [V2,V0,V0]),(1,.cells [V0,V1,V1,.row 101500,.nilS,V0,V1,V0,.nilS,.nilS,.nilS,.nilS,V0]),(2,.cells [.box 0 0]),(101500,.row 9 .str false)]
def b3z(a:d7)(b:List τ0)(c e g:Int)(l m:d7)(o:Int)(p:d7)(q r:Int)(t:List d7):St:=⟨23,[(0,.box 0 0),(1,.v .str a),(3,.fnc 78 [1,2])],[(0,.cells [.v (.sl τ1) b,.v τ2 c,.v τ2 e]),(1,.cells [.v τ2 g,.v .str l,.v .str m,.row 101500,.nilS,.v τ2 o,.v .str p,.v τ2 q,.nilS,.nilS,.nilS,.nilS,.v τ2 r]),(2,.cells [.box 0 0]),(101500,.row 9 .str false t)]⟩
def a6j(a:d7)(b:List τ0)(c e g:Int)(l m:d7)(o:Int)(p:d7)(q r:Int)(t:List d7):St:=⟨23,[(0,.box 0 0),(1,.v .str a)],[(0,.cells [.v (.sl τ1) b,.v τ2 c,.v τ2 e]),(1,.cells [.v τ2 g,.v .str l,.v .str m,.row 101500,.nilS,.v τ2 o,.v .str p,.v τ2 q,.nilS,.nilS,.nilS,.nilS,.v τ2 r]),(2,.cells [.box 0 0]),(101500,.row 9 .str false t)]⟩
def d3l(a:d7)(b:List τ0)(c e g:Int)(l m:d7)(o:Int)(p:d7)(q r:Int)(t:List d7)(k:Ex->St->Option (Except Int τ4)):Option (Except Int τ4):=b3x N (fun u v w B C D E H J K L=>k (.exit 0) (a6j a u v w B C D E H J K L)) N b c e g l m o p q r t
abbrev c3F:FV a8K->HV a8J->(Ex->St->Option (Except Int τ4))->Option (Except Int τ4):=fun x y k=>let z:=y.2.1.2.2.2.2.2;d3l N x.2.1 y.1.1 y.1.2.1 y.1.2.2.1 y.2.1.1 y.2.1.2.1 y.2.1.2.2.1 z.1 z.2.1 z.2.2.1 z.2.2.2.2.2.2.2.1 y.2.2.2.1 k
def b3A:Nat->Code->St->(Ex->St->Option (Except Int τ4))->Option (Except Int τ4):=fun i c=>
 match i with
 |0=>(LPc 23 a8K a8J (c3F N) (fun st k=>iter (c1n 0) (o7 (b3w N) N c 0) N st k))
 |i=>fun st k=>iter (c1n i) (o7 (b3w N) N c i) N st k
theorem c1l(t:d7)(KX:Nat->St->Option (Except Int τ4))(I:St->Option (Except Int τ4))(a:List τ0)(b c e:Int)(g l:d7)(m:Int)(o:d7)(p q:Int)(r:List d7):
  p8 (b3A N) (b3w N) X6 0 (b3z t a b c e g l m o p q r) (F9 (c1n 0) I KX (c1m N))=b3y N (fun u v w B C D E H J K L=>KX 0 (a6j t u v w B C D E H J K L)) (fun a b c e g l m o p q r=>I (b3z t a b c e g l m o p q r)) a b c e g l m o p q r:=by kernel_rfl
theorem d0l:∀x y k,(∀st,k .ret st=(c1m N) st)->iter (c1n 0) (o7 (b3w N) N X6 0) N ⟨23,unF a8K x,unH a8J y⟩ k=c3F N x y k:=fun x y k hk=>
 p9 (S:=τ6×(Int)×(Int)×(Int)×(d7)×(d7)×(Int)×(d7)×(Int)×(Int)×τ20×Unit) (c1n 0) _ (p8 (b3A N) (b3w N) X6 0) (c1m N) (u9 _ _ N _ X6 0 (show LoopsOk (b3A N) (b3w N) N (c1m N) []from trivial)) (fun s=>b3z x.2.1 s.1 s.2.1 s.2.2.1 s.2.2.2.1 s.2.2.2.2.1 s.2.2.2.2.2.1 s.2.2.2.2.2.2.1 s.2.2.2.2.2.2.2.1 s.2.2.2.2.2.2.2.2.1 s.2.2.2.2.2.2.2.2.2.1 s.2.2.2.2.2.2.2.2.2.2.1) k hk
  (fun self s=>let z:=s.2.2.2.2.2;b3y N (fun a b c e g l m o p q r=>k (.exit 0) (a6j x.2.1 a b c e g l m o p q r)) (fun t u v w B C D E H J K=>self (t,u,v,w,B,C,D,E,H,J,K,())) s.1 s.2.1 s.2.2.1 s.2.2.2.1 s.2.2.2.2.1 z.1 z.2.1 z.2.2.1 z.2.2.2.1 z.2.2.2.2.1 z.2.2.2.2.2.1) (fun n s=>let z:=s.2.2.2.2.2;b3x N (fun a b c e g l m o p q r=>k (.exit 0) (a6j x.2.1 a b c e g l m o p q r)) n s.1 s.2.1 s.2.2.1 s.2.2.2.1 s.2.2.2.2.1 z.1 z.2.1 z.2.2.1 z.2.2.2.1 z.2.2.2.2.1 z.2.2.2.2.2.1) (fun _=>rfl) (fun _ _=>rfl)
  (fun I s=>let z:=s.2.2.2.2.2;c1l N x.2.1 (fun j=>k (.exit j)) I s.1 s.2.1 s.2.2.1 s.2.2.2.1 s.2.2.2.2.1 z.1 z.2.1 z.2.2.1 z.2.2.2.1 z.2.2.2.2.1 z.2.2.2.2.2.1) N (y.1.1,y.1.2.1,y.1.2.2.1,y.2.1.1,y.2.1.2.1,y.2.1.2.2.1,y.2.1.2.2.2.2.2.1,y.2.1.2.2.2.2.2.2.1,y.2.1.2.2.2.2.2.2.2.1,y.2.1.2.2.2.2.2.2.2.2.2.2.2.2.1,y.2.2.2.1,())
theorem d6w:Z1 (b3A N) (b3w N) N (c1m N) 0 X6:=fun st k hk=>H3 23 a8K a8J _ _ (c1m N) (d0l N) _ st k hk (rfl)
theorem d3m(x:SV [.box 0 0,V1,V3,.fnc 78 [1,2]])(y:BV [.cells [V2,V0,V0],.cells [V0,V1,V1,.nilS,.nilS,V0,V1,V0,.nilS,.nilS,.nilS,.nilS,V0],.cells [.box 0 0]]):V4 (b3w N) Tryz.f77 (PF.tf (d0o N)) d4w (b3A N) x y=N9 N x.2.1 x.2.2.1 y.1.1 y.1.2.1 y.1.2.2.1 y.2.1.1 y.2.1.2.1 y.2.1.2.2.1 y.2.1.2.2.2.2.2.1 y.2.1.2.2.2.2.2.2.1 y.2.1.2.2.2.2.2.2.2.1 y.2.1.2.2.2.2.2.2.2.2.2.2.2.2.1:=by kernel_rfl
theorem d0r:SoundP Tryz.prog GW x9 B2 77 (d0o N):=
 b2g (b3w N) (H9 c1n (d0m N) (c3G N) _ _ (d0n N) (d0p N)) Tryz.func77 rfl Tryz.call77 (d0o N) d0q (fun _ _=>rfl) N (b3A N) (show LoopsOk (b3A N) (b3w N) N (c1m N) [(0,X6)]from⟨d6w N,trivial⟩) (d3m N)
abbrev a8a(f:SV [.box 0 0,V0]->BV [.cells [V2,V0,V0]]->Option (Except Int (GStmt×List τ0×Int×Int))):PF:={ps:=[.box 0 0,V0],bs:=[.cells [V2,V0,V0]],rs:=[.v τ17],cs:=[.cells [V2,V0,V0]],R:=GStmt×List τ0×Int×Int,out:=fun z=>((z.1,()),(z.2.1,z.2.2.1,z.2.2.2,()),()),f:=f}
end
end
end Go.Proofs.YtolpmfhiegpohaaGreatDoor
