/- % -/
import Derived.Test.YtolpmfhiegpohaaGreatDoorQBmFa
namespace Go.Proofs.YtolpmfhiegpohaaGreatDoor
set_option maxRecDepth 100000
set_option linter.unusedVariables false
open Go Go.RowKit
noncomputable section
noncomputable section
variable(N:Nat)
def W5(_N:Nat)(e g:Int)(a:List τ0)(b c:Int):Option τ14:=br (decide (g>=30)) (br (decide (c<0)) (some (a,b,e)) (some (a,b,c))) (some (a,b,c))
abbrev e1C(f:SV [.box 0 0,V0,V0]->BV [.cells [V2,V0,V0]]->Option τ14):AF:={ps:=[.box 0 0,V0,V0],bs:=[.cells [V2,V0,V0]],rs:=[],cs:=[.cells [V2,V0,V0]],R:=List τ0×Int×Int,out:=fun z=>((),(z.1,z.2.1,z.2.2,()),()),f:=f}
abbrev d9c:AF:=e1C fun x y=>W5 N x.2.1 x.2.2.1 y.1.1 y.1.2.1 y.1.2.2.1
theorem d2Y:Snd 73 (d9c N):=
 a4W h0 [] lkn Tryz.func73 rfl Tryz.call73 (d9c N) (fun _ y=>(y.1.1,y.1.2.1,y.1.2.2.1)) (fun _ _=>rfl) N (fun _ _=>by kernel_rfl) rfl
def a1n(_N:Nat)(e:Int)(g:d9)(a:List τ0)(b c:Int):Option τ27:=br (decide ((a.length:Int)>0)) (j8 (m7 a 0) fun l=>br (l.1==e) (j8 (m7 a 0) fun m=>some (m.2.1==g,a,b,c)) (some (false,a,b,c))) (some (false,a,b,c))
abbrev e1V(f:SV [.box 0 0,V0,V1]->BV [.cells [V2,V0,V0]]->Option τ27):AF:={ps:=[.box 0 0,V0,V1],bs:=[.cells [V2,V0,V0]],rs:=[V3],cs:=[.cells [V2,V0,V0]],R:=Bool×List τ0×Int×Int,out:=fun z=>((z.1,()),(z.2.1,z.2.2.1,z.2.2.2,()),()),f:=f}
abbrev c4M:AF:=e1V fun x y=>a1n N x.2.1 x.2.2.1 y.1.1 y.1.2.1 y.1.2.2.1
theorem b6H:Snd 134 (c4M N):=
 a4W h0 [] lkn Tryz.func134 rfl Tryz.call134 (c4M N) (fun x y=>(x.1,y.1.1,y.1.2.1,y.1.2.2.1)) (fun _ _=>rfl) N (fun _ _=>by kernel_rfl) rfl
def l6(b:Int)(c:d9)(e:List τ0)(g l:Int):Option τ27:=j8 (a1n N b c e g l) fun a=>br (!a.1) (some (false,a.2)) (j8 (slc a.2.1 1 (a.2.1.length:Int)) fun m=>some (true,m,a.2.2))
abbrev e1J(f:SV [.box 0 0,V0,V1]->BV [.cells [V2,V0,V0]]->Option τ27):AF:={ps:=[.box 0 0,V0,V1],bs:=[.cells [V2,V0,V0]],rs:=[V3],cs:=[.cells [V2,V0,V0]],R:=Bool×List τ0×Int×Int,out:=fun z=>((z.1,()),(z.2.1,z.2.2.1,z.2.2.2,()),()),f:=f}
abbrev d3b:AF:=e1J fun x y=>l6 N x.2.1 x.2.2.1 y.1.1 y.1.2.1 y.1.2.2.1
theorem d3e:Snd 74 (d3b N):=
 a4W h0 [(134,c4M N)] (Q3 (b6H N) lkn) Tryz.func74 rfl Tryz.call74 (d3b N) (fun x y=>(x.1,y.1.1,y.1.2.1,y.1.2.2.1)) (fun _ _=>rfl) N (fun _ _=>by kernel_rfl) rfl
def O1(_N:Nat)(a:UInt8):Option Bool:=br (decide (a>=97)) (some (decide (a<=122))) (some false)
abbrev e17:=sgM [.v .u8] [] [V3] [] (Bool) fun z=>((z,()),())
abbrev d6Q:AF:=e17 fun x _=>O1 N x.1
theorem d4c:Snd 33 (d6Q N):=
 a4W h0 [] lkn Tryz.func33 rfl Tryz.call33 (d6Q N) (fun x _=>x.1) (fun _ _=>rfl) N (fun _ _=>by kernel_rfl) rfl
def O0(_N:Nat)(a:UInt8):Option Bool:=br (decide (a>=48)) (some (decide (a<=57))) (some false)
abbrev e16:=sgM [.v .u8] [] [V3] [] (Bool) fun z=>((z,()),())
abbrev d9y:AF:=e16 fun x _=>O0 N x.1
theorem d37:Snd 36 (d9y N):=
 a4W h0 [] lkn Tryz.func36 rfl Tryz.call36 (d9y N) (fun x _=>x.1) (fun _ _=>rfl) N (fun _ _=>by kernel_rfl) rfl
def a2u(_N:Nat):Option τ20:=some [[109,97,99,114,111],[102,111,114],[105,110],[105,102],[101,108,115,101],[117,115,101],[102,105,108,101,115],[99,104,111,111,115,101]]
abbrev e2w(f:SV []->BV []->Option τ20):AF:={ps:=[],bs:=[],rs:=[.row 0],cs:=[.row 9 .str false],R:=List d9,out:=fun z=>(((),()),z,()),f:=f}
abbrev f8w:AF:=e2w fun _ _=>a2u N
theorem e4V:Snd 179 (f8w N):=
 a4W h0 [] lkn Tryz.func179 rfl Tryz.call179 (f8w N) (fun _ y=>y.1) (fun _ _=>rfl) N (fun _ _=>by kernel_rfl) rfl
def f5X(_N:Nat)(b:List d9)(c:d9)(e:Int)(k0:Option Int)(self:ρ21)(a:Int):Option Int:=br (decide (a<e)) (j8 (m7 b a) fun g=>br (c==g) (some a) (self (IntKind.i64.wrap (a+1)))) (k0)
def f7J(N:Nat)(a:List d9)(b:d9)(c:Int)(k0:Option Int):Nat->Int->Option Int|0,_=>none|n+1,e=>f5X N a b c k0 (f7J N a b c k0 n) e
def J0(a:List d9)(b:d9):Option Int:=f7J N a b (a.length:Int) (some (-1:Int)) N 0
abbrev e0v:=sgM [.v τ13,V1] [] [V0] [] (Int) fun z=>((z,()),())
abbrev d8z:AF:=e0v fun x _=>J0 N x.1 x.2.1
abbrev f8y:SV [V0]->BV []->Int:=fun x _=>x.1
def d0q(_N:Nat):FuncId->Option Tmp->Option AF:=fun f _=>t7 [] f
theorem d0r:a1f (d0q N):=fun _ _ _ h=>D7 h lkn
def e0u:Nat->Hint:=fun i=>
 match i with
 |0=>⟨[],[0,1,7,8],[],[],[],[]⟩
 |_=>B8
abbrev e3k:Env:=mkE e0u (d0q N) FF FF
noncomputable abbrev f6F:Code:=cAt (C3 Tryz.f222) [true,false,true,false,false]
abbrev f7j:=P5 (e3k N) Tryz.f222 (d8z N) f8y
abbrev f48:List (Nat×Sl):=[(0,.v τ13),(1,V1),(7,V0),(8,V0)]
abbrev f46:List (Nat×Sb):=[]
def f5Y(a:List d9)(b:d9)(c e:Int):St:=⟨19,[(0,.v τ13 a),(1,.v .str b),(7,.v τ2 c),(8,.v τ2 e)],[]⟩
def f3i(_a:List d9)(_b:d9)(_c:Int):St:=⟨19,[],[]⟩
def f9m(a:List d9)(b:d9)(c e:Int)(k:Ex->St->Option Int):Option Int:=f7J N a b c (k (.exit 0) (f3i a b c)) N e
abbrev f7K:FV f48->HV f46->(Ex->St->Option Int)->Option Int:=fun x _ k=>f9m N x.1 x.2.1 x.2.2.1 x.2.2.2.1 k
def f5Z:Nat->Code->St->(Ex->St->Option Int)->Option Int:=fun i c=>
 match i with
 |0=>(LPc 19 f48 f46 (f7K N) (fun st k=>iter (e0u 0) (q7 (e3k N) N c 0) N st k))
 |i=>fun st k=>iter (e0u i) (q7 (e3k N) N c i) N st k
theorem f7i(a:List d9)(b:d9)(c:Int)(KX:Nat->St->Option Int)(I:St->Option Int)(e:Int):
  s4 (f5Z N) (e3k N) f6F 0 (f5Y a b c e) (I2 (e0u 0) I KX (f7j N))=f5X N a b c (KX 0 (f3i a b c)) (fun e=>I (f5Y a b c e)) e:=by kernel_rfl
theorem f8x:∀x y k,(∀st,k .ret st=(f7j N) st)->iter (e0u 0) (q7 (e3k N) N f6F 0) N ⟨19,unF f48 x,unH f46 y⟩ k=f7K N x y k:=fun x _ k hk=>
 s5 (S:=(Int)×Unit) (e0u 0) _ (s4 (f5Z N) (e3k N) f6F 0) (f7j N) (x9 _ _ N _ f6F 0 (show LoopsOk (f5Z N) (e3k N) N (f7j N) []from trivial)) (fun s=>f5Y x.1 x.2.1 x.2.2.1 s.1) k hk
  (fun self s=>f5X N x.1 x.2.1 x.2.2.1 (k (.exit 0) (f3i x.1 x.2.1 x.2.2.1)) (fun a=>self (a,())) s.1) (fun n s=>f7J N x.1 x.2.1 x.2.2.1 (k (.exit 0) (f3i x.1 x.2.1 x.2.2.1)) n s.1) (fun _=>rfl) (fun _ _=>rfl)
  (fun I s=>f7i N x.1 x.2.1 x.2.2.1 (fun j=>k (.exit j)) I s.1) N (x.2.2.2.1,())
theorem f92:a1g (f5Z N) (e3k N) N (f7j N) 0 f6F:=fun st k hk=>J8 19 f48 f46 _ _ (f7j N) (f8x N) _ st k hk (rfl)
theorem f9n(x:SV [.v τ13,V1])(y:BV []):a0f (e3k N) Tryz.f222 (d8z N) f8y (f5Z N) x y=J0 N x.1 x.2.1:=by kernel_rfl
theorem d0t:Snd 222 (d8z N):=
 b2q (d0r N) Tryz.func222 rfl Tryz.call222 (d8z N) f8y (fun _ _=>rfl) N (f5Z N) (show LoopsOk (f5Z N) (e3k N) N (f7j N) [(0,f6F)]from⟨f92 N,trivial⟩) (f9n N)
def o7(a:List d9)(b:d9):Option Bool:=j8 (J0 N a b) fun c=>some (decide (c>=0))
abbrev e3F:=sgM [.v τ13,V1] [] [V3] [] (Bool) fun z=>((z,()),())
abbrev z4g:AF:=e3F fun x _=>o7 N x.1 x.2.1
theorem d6d:Snd 178 (z4g N):=
 a4W h0 [(222,d8z N)] (Q3 (d0t N) lkn) Tryz.func178 rfl Tryz.call178 (z4g N) (fun x _=>x.1) (fun _ _=>rfl) N (fun _ _=>by kernel_rfl) rfl
def e4v(b:d9)(c:Int)(k0:Option Bool)(self:ρ20)(a:Int):Option Bool:=br (decide (a<c)) (j8 (m7 b a) fun e=>j8 (O1 N e) fun g=>br (!g) (j8 (m7 b a) fun l=>j8 (O0 N l) fun m=>br (!m) (j8 (m7 b a) fun o=>br (o !=95) (some false) (self (IntKind.i64.wrap (a+1)))) (self (IntKind.i64.wrap (a+1)))) (self (IntKind.i64.wrap (a+1)))) (k0)
def e49(N:Nat)(a:d9)(b:Int)(k0:Option Bool):Nat->Int->Option Bool|0,_=>none|n+1,c=>e4v N a b k0 (e49 N a b k0 n) c
def G5(a:d9):Option Bool:=br (decide ((a.length:Int)<1)) (some false) (br (decide ((a.length:Int)>40)) (some false) (j8 (m7 a 0) fun b=>j8 (O1 N b) fun c=>br (!c) (some false) (e49 N a (a.length:Int) (j8 (a2u N) fun e=>j8 (o7 N e a) fun g=>some (!g)) N 0)))
abbrev e2c:=sgM [V1] [] [V3] [] (Bool) fun z=>((z,()),())
abbrev d6T:AF:=e2c fun x _=>G5 N x.1
abbrev e8E:SV [V3]->BV []->Bool:=fun x _=>x.1
def d4k:FuncId->Option Tmp->Option AF:=fun f _=>t7 [(33,d6Q N),(36,d9y N),(178,z4g N),(179,f8w N)] f
theorem d4l:a1f (d4k N):=fun _ _ _ h=>D7 h (Q3 (d4c N) (Q3 (d37 N) (Q3 (d6d N) (Q3 (e4V N) lkn))))
def e2b:Nat->Hint:=fun i=>
 match i with
 |0=>⟨[],[0,19,20],[],[0],[],[]⟩
 |_=>B8
abbrev e3W:Env:=mkE e2b (d4k N) FF FF
noncomputable abbrev e5a:Code:=cAt (C3 Tryz.f135) [true,true,false,true,false,false]
abbrev e56:=P5 (e3W N) Tryz.f135 (d6T N) e8E
abbrev d9Q:List (Nat×Sl):=[(0,V1),(19,V0),(20,V0)]
abbrev d9O:List (Nat×Sb):=[]
def e4w(a:d9)(b c:Int):St:=⟨46,[(0,.v .str a),(19,.v τ2 b),(20,.v τ2 c)],[]⟩
def f4j(a:d9)(_b:Int):St:=⟨46,[(0,.v .str a)],[]⟩
def e9M(a:d9)(b c:Int)(k:Ex->St->Option Bool):Option Bool:=e49 N a b (k (.exit 0) (f4j a b)) N c
abbrev e6T:FV d9Q->HV d9O->(Ex->St->Option Bool)->Option Bool:=fun x _ k=>e9M N x.1 x.2.1 x.2.2.1 k
def e4x:Nat->Code->St->(Ex->St->Option Bool)->Option Bool:=fun i c=>
 match i with
 |0=>(LPc 46 d9Q d9O (e6T N) (fun st k=>iter (e2b 0) (q7 (e3W N) N c 0) N st k))
 |i=>fun st k=>iter (e2b i) (q7 (e3W N) N c i) N st k
theorem e55(a:d9)(b:Int)(KX:Nat->St->Option Bool)(I:St->Option Bool)(c:Int):
  s4 (e4x N) (e3W N) e5a 0 (e4w a b c) (I2 (e2b 0) I KX (e56 N))=e4v N a b (KX 0 (f4j a b)) (fun c=>I (e4w a b c)) c:=by kernel_rfl
theorem e8D:∀x y k,(∀st,k .ret st=(e56 N) st)->iter (e2b 0) (q7 (e3W N) N e5a 0) N ⟨46,unF d9Q x,unH d9O y⟩ k=e6T N x y k:=fun x _ k hk=>
 s5 (S:=(Int)×Unit) (e2b 0) _ (s4 (e4x N) (e3W N) e5a 0) (e56 N) (x9 _ _ N _ e5a 0 (show LoopsOk (e4x N) (e3W N) N (e56 N) []from trivial)) (fun s=>e4w x.1 x.2.1 s.1) k hk
  (fun self s=>e4v N x.1 x.2.1 (k (.exit 0) (f4j x.1 x.2.1)) (fun a=>self (a,())) s.1) (fun n s=>e49 N x.1 x.2.1 (k (.exit 0) (f4j x.1 x.2.1)) n s.1) (fun _=>rfl) (fun _ _=>rfl)
  (fun I s=>e55 N x.1 x.2.1 (fun j=>k (.exit j)) I s.1) N (x.2.2.1,())
theorem f0E:a1g (e4x N) (e3W N) N (e56 N) 0 e5a:=fun st k hk=>J8 46 d9Q d9O _ _ (e56 N) (e8D N) _ st k hk (rfl)
theorem e9N(x:SV [V1])(y:BV []):a0f (e3W N) Tryz.f135 (d6T N) e8E (e4x N) x y=G5 N x.1:=by kernel_rfl
theorem c2i:Snd 135 (d6T N):=
 b2q (d4l N) Tryz.func135 rfl Tryz.call135 (d6T N) e8E (fun _ _=>rfl) N (e4x N) (show LoopsOk (e4x N) (e3W N) N (e56 N) [(0,e5a)]from⟨f0E N,trivial⟩) (e9N N)
def o4(a:List τ0)(b c:Int):Option (Except Int τ23):=br ((a.length:Int)==0) (m8 (n8 N a b c) fun e=>j8 (m7 e.1 0) fun m=>j8 (slc e.1 1 (e.1.length:Int)) fun o=>some (.ok (m.2.1,o,e.2))) (j8 (m7 a 0) fun p=>br (p.1 !=1) (m8 (n8 N a b c) fun g=>j8 (m7 g.1 0) fun q=>j8 (slc g.1 1 (g.1.length:Int)) fun r=>some (.ok (q.2.1,r,g.2))) (j8 (m7 a 0) fun t=>j8 (G5 N t.2.1) fun u=>br (!u) (m8 (n8 N a b c) fun l=>j8 (m7 l.1 0) fun v=>j8 (slc l.1 1 (l.1.length:Int)) fun w=>some (.ok (v.2.1,w,l.2))) (j8 (m7 a 0) fun B=>j8 (slc a 1 (a.length:Int)) fun C=>some (.ok (B.2.1,C,b,c)))))
abbrev e1G(f:SV [.box 0 0]->BV [.cells [V2,V0,V0]]->Option (Except Int τ23)):PF:={ps:=[.box 0 0],bs:=[.cells [V2,V0,V0]],rs:=[V1],cs:=[.cells [V2,V0,V0]],R:=d9×List τ0×Int×Int,out:=fun z=>((z.1,()),(z.2.1,z.2.2.1,z.2.2.2,()),()),f:=f}
abbrev d6l:PF:=e1G fun _ y=>o4 N y.1.1 y.1.2.1 y.1.2.2.1
def d22:FuncId->Option Tmp->Option AF:=fun f _=>t7 [(135,d6T N)] f
theorem d23:a1f (d22 N):=fun _ _ _ h=>D7 h (Q3 (c2i N) lkn)
def e6M:FuncId->Option Tmp->Option PF:=fun f _=>
 match f with
  |136=>some (c8e N)
  |_=>none
theorem e8f:∀f q F,e6M N f q=some F->SoundP Tryz.prog GW B0G c2M f F:=by
 intro f q F h;unfold e6M at h;split at h
 ·cases h;exact b1e N
 ·cases h
def e1F:Nat->Hint:=fun i=>
 match i with
 |_=>B8
abbrev e3O:Env:=a2Q e1F (d22 N) (e6M N) (fun _=>false) (fun _=>false)
theorem c1Z:SoundP Tryz.prog GW B0G c2M 75 (d6l N):=
 a2x (e3O N) (L0 e1F (d22 N) (e6M N) _ _ (d23 N) (e8f N)) Tryz.func75 rfl Tryz.call75 (d6l N) (fun x y=>(x.1,y.1.1,y.1.2.1,y.1.2.2.1)) (fun _ _=>rfl) N (fun _ _=>by kernel_rfl) rfl
def k6(b:d9)(c:List τ0)(e g:Int):Option (Except Int τ14):=j8 (l6 N 4 b c e g) fun a=>br (!a.1) (m8 (n8 N a.2.1 a.2.2.1 a.2.2.2) fun l=>some (.ok l)) (some (.ok a.2))
abbrev e1I(f:SV [.box 0 0,V1]->BV [.cells [V2,V0,V0]]->Option (Except Int τ14)):PF:={ps:=[.box 0 0,V1],bs:=[.cells [V2,V0,V0]],rs:=[],cs:=[.cells [V2,V0,V0]],R:=List τ0×Int×Int,out:=fun z=>((),(z.1,z.2.1,z.2.2,()),()),f:=f}
abbrev d9f:PF:=e1I fun x y=>k6 N x.2.1 y.1.1 y.1.2.1 y.1.2.2.1
def d24:FuncId->Option Tmp->Option AF:=fun f _=>t7 [(74,d3b N)] f
theorem d25:a1f (d24 N):=fun _ _ _ h=>D7 h (Q3 (d3e N) lkn)
def c6K:FuncId->Option Tmp->Option PF:=fun f _=>
 match f with
  |136=>some (c8e N)
  |_=>none
theorem d26:∀f q F,c6K N f q=some F->SoundP Tryz.prog GW B0G c2M f F:=by
 intro f q F h;unfold c6K at h;split at h
 ·cases h;exact b1e N
 ·cases h
def e1H:Nat->Hint:=fun i=>
 match i with
 |_=>B8
abbrev e3P:Env:=a2Q e1H (d24 N) (c6K N) (fun _=>false) (fun _=>false)
theorem d27:SoundP Tryz.prog GW B0G c2M 76 (d9f N):=
 a2x (e3P N) (L0 e1H (d24 N) (c6K N) _ _ (d25 N) (d26 N)) Tryz.func76 rfl Tryz.call76 (d9f N) (fun _ y=>(y.1.1,y.1.2.1,y.1.2.2.1)) (fun _ _=>rfl) N (fun _ _=>by kernel_rfl) rfl
def D5(b:Int)(c e:d9)(g:Int)(l:d9)(m o:Int)(p:List τ0)(q r:Int):Option (Except Int τ18):=o9 (m8 (o4 N p q r) fun a=>br (Zf [a.1].length .str) (some (.ok (b,c,e,g,l,m,o,a.2.1,a.2.2.1,a.2.2.2,[a.1]))) none) (o9 (m8 (o4 N p q r) fun a=>br (Zf [a.1].length .str) (some (.ok (b,c,e,g,l,m,o,a.2.1,a.2.2.1,a.2.2.2,[a.1]))) none) (m8 (o4 N p q r) fun a=>k9 1 (br (Zf [a.1].length .str) (some (.ok (b,c,e,g,l,m,o,a.2.1,a.2.2.1,a.2.2.2,[a.1]))) none)))
abbrev b8h(f:SV [.box 0 0,.box 1 0]->BV [.cells [V0,V1,V1,.nilS,.nilS,V0,V1,V0,.nilS,.nilS,.nilS,.nilS,V0],.cells [.box 2 0],.cells [V2,V0,V0]]->Option (Except Int τ18)):PF:={ps:=[.box 0 0,.box 1 0],bs:=[.cells [V0,V1,V1,.nilS,.nilS,V0,V1,V0,.nilS,.nilS,.nilS,.nilS,V0],.cells [.box 2 0],.cells [V2,V0,V0]],rs:=[],cs:=[.cells [V0,V1,V1,.row 3,.nilS,V0,V1,V0,.nilS,.nilS,.nilS,.nilS,V0],.cells [.box 2 0],.cells [V2,V0,V0],.row 9 .str false],R:=Int×d9×d9×Int×d9×Int×Int×List τ0×Int×Int×List d9,out:=fun z=>((),(z.1,z.2.1,z.2.2.1,(),(),z.2.2.2.1,z.2.2.2.2.1,z.2.2.2.2.2.1,(),(),(),(),z.2.2.2.2.2.2.1,()),((),()),(z.2.2.2.2.2.2.2.1,z.2.2.2.2.2.2.2.2.1,z.2.2.2.2.2.2.2.2.2.1,()),z.2.2.2.2.2.2.2.2.2.2,()),f:=f}
abbrev f01:PF:=b8h fun _ y=>let z:=y.1.2.2.2.2.2;D5 N y.1.1 y.1.2.1 y.1.2.2.1 z.1 z.2.1 z.2.2.1 z.2.2.2.2.2.2.2.1 y.2.2.1.1 y.2.2.1.2.1 y.2.2.1.2.2.1
def e7i(_N:Nat):FuncId->Option Tmp->Option AF:=fun f _=>t7 [] f
theorem e7j:a1f (e7i N):=fun _ _ _ h=>D7 h lkn
def e6p:FuncId->Option Tmp->Option PF:=fun f _=>
 match f with
  |75=>some (d6l N)
  |_=>none
theorem e7k:∀f q F,e6p N f q=some F->SoundP Tryz.prog GW B0G c2M f F:=by
 intro f q F h;unfold e6p at h;split at h
 ·cases h;exact c1Z N
 ·cases h
def f02:Nat->Hint:=fun i=>
 match i with
 |100000=>⟨[],[1,2],[],[],[],[]⟩
 |_=>B8
abbrev f1J:Env:=a2Q f02 (e7i N) (e6p N) (fun _=>false) (fun _=>false)
theorem c1L:SoundP Tryz.prog GW B0G c2M 78 (f01 N):=
 a2x (f1J N) (L0 f02 (e7i N) (e6p N) _ _ (e7j N) (e7k N)) Tryz.func78 rfl Tryz.call78 (f01 N) (fun _ y=>let z:=y.1.2.2.2.2.2;(y.1.1,y.1.2.1,y.1.2.2.1,z.1,z.2.1,z.2.2.1,z.2.2.2.2.2.2.2.1,y.2.2.1.1,y.2.2.1.2.1,y.2.2.1.2.2.1,y.2.2.2.1)) (fun _ _=>rfl) N (fun _ _=>by kernel_rfl) rfl
def F1(c:Int)(e g:d9)(l:Int)(m:d9)(o p:Int)(b:List d9)(q:List τ0)(r t:Int):Option (Except Int τ19):=o9 (m8 (o4 N q r t) fun a=>br (Zf (b.length + [a.1].length) .str) (some (.ok (c,e,g,l,m,o,p,b ++ [a.1],a.2))) none) (o9 (m8 (o4 N q r t) fun a=>br (Zf (b.length + [a.1].length) .str) (some (.ok (c,e,g,l,m,o,p,b ++ [a.1],a.2))) none) (m8 (o4 N q r t) fun a=>k9 1 (br (Zf (b.length + [a.1].length) .str) (some (.ok (c,e,g,l,m,o,p,b ++ [a.1],a.2))) none)))
abbrev e3Q(f:SV [.box 0 0,.box 1 0]->BV [.cells [V0,V1,V1,.row 2,.nilS,V0,V1,V0,.nilS,.nilS,.nilS,.nilS,V0],.cells [.box 3 0],.row 9 .str false,.cells [V2,V0,V0]]->Option (Except Int τ19)):PF:={ps:=[.box 0 0,.box 1 0],bs:=[.cells [V0,V1,V1,.row 2,.nilS,V0,V1,V0,.nilS,.nilS,.nilS,.nilS,V0],.cells [.box 3 0],.row 9 .str false,.cells [V2,V0,V0]],rs:=[],cs:=[.cells [V0,V1,V1,.row 2,.nilS,V0,V1,V0,.nilS,.nilS,.nilS,.nilS,V0],.cells [.box 3 0],.row 9 .str false,.cells [V2,V0,V0]],R:=Int×d9×d9×Int×d9×Int×Int×List d9×List τ0×Int×Int,out:=fun z=>((),(z.1,z.2.1,z.2.2.1,(),(),z.2.2.2.1,z.2.2.2.2.1,z.2.2.2.2.2.1,(),(),(),(),z.2.2.2.2.2.2.1,()),((),()),z.2.2.2.2.2.2.2.1,(z.2.2.2.2.2.2.2.2.1,z.2.2.2.2.2.2.2.2.2.1,z.2.2.2.2.2.2.2.2.2.2,()),()),f:=f}
abbrev z6g:PF:=e3Q fun _ y=>let z:=y.1.2.2.2.2.2;let u:=y.2.2.2.1;F1 N y.1.1 y.1.2.1 y.1.2.2.1 z.1 z.2.1 z.2.2.1 z.2.2.2.2.2.2.2.1 y.2.2.1 u.1 u.2.1 u.2.2.1
def d9o(_N:Nat):FuncId->Option Tmp->Option AF:=fun f _=>t7 [] f
theorem d6v:a1f (d9o N):=fun _ _ _ h=>D7 h lkn
def e9F:FuncId->Option Tmp->Option PF:=fun f _=>
 match f with
  |75=>some (d6l N)
  |_=>none
theorem e9G:∀f q F,e9F N f q=some F->SoundP Tryz.prog GW B0G c2M f F:=by
 intro f q F h;unfold e9F at h;split at h
 ·cases h;exact c1Z N
 ·cases h
def z6h:Nat->Hint:=fun i=>
 match i with
 |100000=>⟨[],[1,2],[],[],[],[]⟩
 |_=>B8
abbrev z6E:Env:=a2Q z6h (d9o N) (e9F N) (fun _=>false) (fun _=>false)
theorem d6w:SoundP Tryz.prog GW B0G c2M 78 (z6g N):=
 a2x (z6E N) (L0 z6h (d9o N) (e9F N) _ _ (d6v N) (e9G N)) Tryz.func78 rfl Tryz.call78 (z6g N) (fun _ y=>let z:=y.1.2.2.2.2.2;let u:=y.2.2.2.1;(y.1.1,y.1.2.1,y.1.2.2.1,z.1,z.2.1,z.2.2.1,z.2.2.2.2.2.2.2.1,y.2.2.1,u.1,u.2.1,u.2.2.1)) (fun _ _=>rfl) N (fun _ _=>by kernel_rfl) rfl
end
end
noncomputable section
noncomputable section
variable(N:Nat)
def a9Z(k0 self:ρ5)(r:List τ0)(t u c:Int)(e g:d9)(l:Int)(m:d9)(o p:Int)(q:List d9):Option (Except Int τ5):=j8 (l6 N 4 [44] r t u) fun b=>br (b.1) (m8 (F1 N c e g l m o p q b.2.1 b.2.2.1 b.2.2.2) fun a=>self a.2.2.2.2.2.2.2.2.1 a.2.2.2.2.2.2.2.2.2.1 a.2.2.2.2.2.2.2.2.2.2 a.1 a.2.1 a.2.2.1 a.2.2.2.1 a.2.2.2.2.1 a.2.2.2.2.2.1 a.2.2.2.2.2.2.1 a.2.2.2.2.2.2.2.1) (k0 b.2.1 b.2.2.1 b.2.2.2 c e g l m o p q)
def c19(N:Nat)(k0:ρ5):Nat->τ6->Int->Int->Int->d9->d9->Int->d9->Int->Int->τ20->Option (Except Int τ5)|0,_,_,_,_,_,_,_,_,_,_,_=>none|n+1,a,b,c,e,g,l,m,o,p,q,r=>a9Z N k0 (c19 N k0 n) a b c e g l m o p q r
def S7(e:d9)(U:Bool)(Q:List τ0)(R T g:Int)(l m:d9)(o:Int)(p:d9)(q r:Int):Option (Except Int τ5):=br (U) (j8 (l6 N 4 e Q R T) fun c=>br (c.1) (some (.ok (c.2.1,c.2.2.1,c.2.2.2,g,l,m,[],o,p,q,r))) (m8 (D5 N g l m o p q r c.2.1 c.2.2.1 c.2.2.2) fun a=>c19 N (fun t u v w B C D E H J K=>m8 (k6 N e t u v) fun L=>some (.ok (L.1,L.2.1,L.2.2,w,B,C,K,D,E,H,J))) N a.2.2.2.2.2.2.2.1 a.2.2.2.2.2.2.2.2.1 a.2.2.2.2.2.2.2.2.2.1 a.1 a.2.1 a.2.2.1 a.2.2.2.1 a.2.2.2.2.1 a.2.2.2.2.2.1 a.2.2.2.2.2.2.1 a.2.2.2.2.2.2.2.2.2.2)) (m8 (D5 N g l m o p q r Q R T) fun b=>c19 N (fun t u v w B C D E H J K=>m8 (k6 N e t u v) fun O=>some (.ok (O.1,O.2.1,O.2.2,w,B,C,K,D,E,H,J))) N b.2.2.2.2.2.2.2.1 b.2.2.2.2.2.2.2.2.1 b.2.2.2.2.2.2.2.2.2.1 b.1 b.2.1 b.2.2.1 b.2.2.2.1 b.2.2.2.2.1 b.2.2.2.2.2.1 b.2.2.2.2.2.2.1 b.2.2.2.2.2.2.2.2.2.2)
abbrev e1N(f:SV [.box 0 0,V1,V3,.fnc 78 [1,2]]->BV [.cells [V2,V0,V0],.cells [V0,V1,V1,.nilS,.nilS,V0,V1,V0,.nilS,.nilS,.nilS,.nilS,V0],.cells [.box 0 0]]->Option (Except Int τ5)):PF:={ps:=[.box 0 0,V1,V3,.fnc 78 [1,2]],bs:=[.cells [V2,V0,V0],.cells [V0,V1,V1,.nilS,.nilS,V0,V1,V0,.nilS,.nilS,.nilS,.nilS,V0],.cells [.box 0 0]],rs:=[],cs:=[.cells [V2,V0,V0],.cells [V0,V1,V1,.v τ13,.nilS,V0,V1,V0,.nilS,.nilS,.nilS,.nilS,V0],.cells [.box 0 0]],R:=List τ0×Int×Int×Int×d9×d9×List d9×Int×d9×Int×Int,out:=fun z=>((),(z.1,z.2.1,z.2.2.1,()),(z.2.2.2.1,z.2.2.2.2.1,z.2.2.2.2.2.1,z.2.2.2.2.2.2.1,(),z.2.2.2.2.2.2.2.1,z.2.2.2.2.2.2.2.2.1,z.2.2.2.2.2.2.2.2.2.1,(),(),(),(),z.2.2.2.2.2.2.2.2.2.2,()),((),()),()),f:=f}
abbrev d6s:PF:=e1N fun x y=>let z:=y.2.1.2.2.2.2.2;S7 N x.2.1 x.2.2.1 y.1.1 y.1.2.1 y.1.2.2.1 y.2.1.1 y.2.1.2.1 y.2.1.2.2.1 z.1 z.2.1 z.2.2.1 z.2.2.2.2.2.2.2.1
abbrev e8t:SV []->BV [.cells [V2,V0,V0],.cells [V0,V1,V1,.v τ13,.nilS,V0,V1,V0,.nilS,.nilS,.nilS,.nilS,V0],.cells [.box 0 0]]->τ5:=fun _ y=>let z:=y.2.1.2.2.2.2.2;(y.1.1,y.1.2.1,y.1.2.2.1,y.2.1.1,y.2.1.2.1,y.2.1.2.2.1,y.2.1.2.2.2.1,z.1,z.2.1,z.2.2.1,z.2.2.2.2.2.2.2.1)
abbrev d3r:SV []->BV [.cells [V2,V0,V0],.cells [V0,V1,V1,.v τ13,.nilS,V0,V1,V0,.nilS,.nilS,.nilS,.nilS,V0],.cells [.box 0 0]]->Except Int τ5:=fun x y=> .ok (e8t x y)
def d3p:FuncId->Option Tmp->Option AF:=fun f _=>t7 [(74,d3b N)] f
theorem d3q:a1f (d3p N):=fun _ _ _ h=>D7 h (Q3 (d3e N) lkn)
def e6Q:FuncId->Option Tmp->Option PF:=fun f q=>
 match f with
  |76=>some (d9f N)
  |78=>match q with|some 15=>some (f01 N)|some 19=>some (z6g N)|_=>none
  |_=>none
theorem e8s:∀f q F,e6Q N f q=some F->SoundP Tryz.prog GW B0G c2M f F:=by
 intro f q F h;unfold e6Q at h;split at h
 ·cases h;exact d27 N
 ·split at h
  ·cases h;exact c1L N
  ·cases h;exact d6w N
  ·cases h
 ·cases h
def c4C:Nat->Hint:=fun i=>
 match i with
 |0=>⟨[],[0,1,3],[0,1,2,101500],[0,1],[0,1,2,101500],[]⟩
 |_=>B8
abbrev b7f:Env:=a2Q c4C (d3p N) (e6Q N) (fun _=>false) (fun _=>false)
abbrev c4B:=P5 (b7f N) Tryz.f77 (PF.tf (d6s N)) d3r
noncomputable abbrev b8w:Code:=cAt (C3 Tryz.f77) [true,true,false,false,false]
abbrev b1k:List (Nat×Sl):=[(0,.box 0 0),(1,V1),(3,.fnc 78 [1,2])]
abbrev b1j:List (Nat×Sb):=[(0,.cells [V2,V0,V0]),(1,.cells [V0,V1,V1,.row 101500,.nilS,V0,V1,V0,.nilS,.nilS,.nilS,.nilS,V0]),(2,.cells [.box 0 0]),(101500,.row 9 .str false)]
def b6s(a:d9)(b:List τ0)(c e g:Int)(l m:d9)(o:Int)(p:d9)(q r:Int)(t:List d9):St:=⟨23,[(0,.box 0 0),(1,.v .str a),(3,.fnc 78 [1,2])],[(0,.cells [.v (.sl τ1) b,.v τ2 c,.v τ2 e]),(1,.cells [.v τ2 g,.v .str l,.v .str m,.row 101500,.nilS,.v τ2 o,.v .str p,.v τ2 q,.nilS,.nilS,.nilS,.nilS,.v τ2 r]),(2,.cells [.box 0 0]),(101500,.row 9 .str false t)]⟩
def a8T(a:d9)(b:List τ0)(c e g:Int)(l m:d9)(o:Int)(p:d9)(q r:Int)(t:List d9):St:=⟨23,[(0,.box 0 0),(1,.v .str a)],[(0,.cells [.v (.sl τ1) b,.v τ2 c,.v τ2 e]),(1,.cells [.v τ2 g,.v .str l,.v .str m,.row 101500,.nilS,.v τ2 o,.v .str p,.v τ2 q,.nilS,.nilS,.nilS,.nilS,.v τ2 r]),(2,.cells [.box 0 0]),(101500,.row 9 .str false t)]⟩
def d6q(a:d9)(b:List τ0)(c e g:Int)(l m:d9)(o:Int)(p:d9)(q r:Int)(t:List d9)(k:Ex->St->Option (Except Int τ5)):Option (Except Int τ5):=c19 N (fun u v w B C D E H J K L=>k (.exit 0) (a8T a u v w B C D E H J K L)) N b c e g l m o p q r t
abbrev c6P:FV b1k->HV b1j->(Ex->St->Option (Except Int τ5))->Option (Except Int τ5):=fun x y k=>let z:=y.2.1.2.2.2.2.2;d6q N x.2.1 y.1.1 y.1.2.1 y.1.2.2.1 y.2.1.1 y.2.1.2.1 y.2.1.2.2.1 z.1 z.2.1 z.2.2.1 z.2.2.2.2.2.2.2.1 y.2.2.2.1 k
def b6t:Nat->Code->St->(Ex->St->Option (Except Int τ5))->Option (Except Int τ5):=fun i c=>
 match i with
 |0=>(LPc 23 b1k b1j (c6P N) (fun st k=>iter (c4C 0) (q7 (b7f N) N c 0) N st k))
 |i=>fun st k=>iter (c4C i) (q7 (b7f N) N c i) N st k
theorem c4A(t:d9)(KX:Nat->St->Option (Except Int τ5))(I:St->Option (Except Int τ5))(a:List τ0)(b c e:Int)(g l:d9)(m:Int)(o:d9)(p q:Int)(r:List d9):
  s4 (b6t N) (b7f N) b8w 0 (b6s t a b c e g l m o p q r) (I2 (c4C 0) I KX (c4B N))=a9Z N (fun u v w B C D E H J K L=>KX 0 (a8T t u v w B C D E H J K L)) (fun a b c e g l m o p q r=>I (b6s t a b c e g l m o p q r)) a b c e g l m o p q r:=by kernel_rfl
theorem d3o:∀x y k,(∀st,k .ret st=(c4B N) st)->iter (c4C 0) (q7 (b7f N) N b8w 0) N ⟨23,unF b1k x,unH b1j y⟩ k=c6P N x y k:=fun x y k hk=>
 s5 (S:=τ6×(Int)×(Int)×(Int)×(d9)×(d9)×(Int)×(d9)×(Int)×(Int)×τ20×Unit) (c4C 0) _ (s4 (b6t N) (b7f N) b8w 0) (c4B N) (x9 _ _ N _ b8w 0 (show LoopsOk (b6t N) (b7f N) N (c4B N) []from trivial)) (fun s=>b6s x.2.1 s.1 s.2.1 s.2.2.1 s.2.2.2.1 s.2.2.2.2.1 s.2.2.2.2.2.1 s.2.2.2.2.2.2.1 s.2.2.2.2.2.2.2.1 s.2.2.2.2.2.2.2.2.1 s.2.2.2.2.2.2.2.2.2.1 s.2.2.2.2.2.2.2.2.2.2.1) k hk
  (fun self s=>let z:=s.2.2.2.2.2;a9Z N (fun a b c e g l m o p q r=>k (.exit 0) (a8T x.2.1 a b c e g l m o p q r)) (fun t u v w B C D E H J K=>self (t,u,v,w,B,C,D,E,H,J,K,())) s.1 s.2.1 s.2.2.1 s.2.2.2.1 s.2.2.2.2.1 z.1 z.2.1 z.2.2.1 z.2.2.2.1 z.2.2.2.2.1 z.2.2.2.2.2.1) (fun n s=>let z:=s.2.2.2.2.2;c19 N (fun a b c e g l m o p q r=>k (.exit 0) (a8T x.2.1 a b c e g l m o p q r)) n s.1 s.2.1 s.2.2.1 s.2.2.2.1 s.2.2.2.2.1 z.1 z.2.1 z.2.2.1 z.2.2.2.1 z.2.2.2.2.1 z.2.2.2.2.2.1) (fun _=>rfl) (fun _ _=>rfl)
  (fun I s=>let z:=s.2.2.2.2.2;c4A N x.2.1 (fun j=>k (.exit j)) I s.1 s.2.1 s.2.2.1 s.2.2.2.1 s.2.2.2.2.1 z.1 z.2.1 z.2.2.1 z.2.2.2.1 z.2.2.2.2.1 z.2.2.2.2.2.1) N (y.1.1,y.1.2.1,y.1.2.2.1,y.2.1.1,y.2.1.2.1,y.2.1.2.2.1,y.2.1.2.2.2.2.2.1,y.2.1.2.2.2.2.2.2.1,y.2.1.2.2.2.2.2.2.2.1,y.2.1.2.2.2.2.2.2.2.2.2.2.2.2.1,y.2.2.2.1,())
theorem d9k:a1g (b6t N) (b7f N) N (c4B N) 0 b8w:=fun st k hk=>J8 23 b1k b1j _ _ (c4B N) (d3o N) _ st k hk (rfl)
theorem d6r(x:SV [.box 0 0,V1,V3,.fnc 78 [1,2]])(y:BV [.cells [V2,V0,V0],.cells [V0,V1,V1,.nilS,.nilS,V0,V1,V0,.nilS,.nilS,.nilS,.nilS,V0],.cells [.box 0 0]]):a0f (b7f N) Tryz.f77 (PF.tf (d6s N)) d3r (b6t N) x y=S7 N x.2.1 x.2.2.1 y.1.1 y.1.2.1 y.1.2.2.1 y.2.1.1 y.2.1.2.1 y.2.1.2.2.1 y.2.1.2.2.2.2.2.1 y.2.1.2.2.2.2.2.2.1 y.2.1.2.2.2.2.2.2.2.1 y.2.1.2.2.2.2.2.2.2.2.2.2.2.2.1:=by kernel_rfl
theorem d3s:SoundP Tryz.prog GW B0G c2M 77 (d6s N):=
 b49 (b7f N) (L0 c4C (d3p N) (e6Q N) _ _ (d3q N) (e8s N)) Tryz.func77 rfl Tryz.call77 (d6s N) e8t (fun _ _=>rfl) N (b6t N) (show LoopsOk (b6t N) (b7f N) N (c4B N) [(0,b8w)]from⟨d9k N,trivial⟩) (d6r N)
abbrev e0G(f:SV [.box 0 0,V0]->BV [.cells [V2,V0,V0]]->Option (Except Int (GStmt×List τ0×Int×Int))):PF:={ps:=[.box 0 0,V0],bs:=[.cells [V2,V0,V0]],rs:=[.v τ17],cs:=[.cells [V2,V0,V0]],R:=GStmt×List τ0×Int×Int,out:=fun z=>((z.1,()),(z.2.1,z.2.2.1,z.2.2.2,()),()),f:=f}
end
end
end Go.Proofs.YtolpmfhiegpohaaGreatDoor
