/- What functions of the program compute, as plain functions (printed). -/
import Derived.Test.YtolpmfhiegpohaaGreatDoorQBmFa
namespace Go.Proofs.YtolpmfhiegpohaaGreatDoor
set_option maxRecDepth 100000
set_option linter.unusedVariables false
open Go Go.RowKit
noncomputable section
noncomputable section
variable(N:Nat)
def M8(_N:Nat)(e g:Int)(a:List τ0)(b c:Int):Option τ17:=br (decide (g>=30)) (br (decide (c<0)) (some (a,(b,e))) (some (a,(b,c)))) (some (a,(b,c)))
abbrev e3e(f:SV [.box 0 0,V0,V0]->BV [.cells [V3,V0,V0]]->Option τ17):AF:={ps:=[.box 0 0,V0,V0],bs:=[.cells [V3,V0,V0]],rs:=[],cs:=[.cells [V3,V0,V0]],R:=List τ0×Int×Int,out:=fun z=>((),((z.1,z.2.1,z.2.2,()),())),f:=f}
abbrev d7H:AF:=e3e fun x y=>M8 N x.2.1 x.2.2.1 y.1.1 y.1.2.1 y.1.2.2.1
theorem c1K:P7 73 (d7H N):=
 V5 h0 [] G7 Tryz.func73 rfl Tryz.call73 (d7H N) (fun _ y=>(y.1.1,y.1.2.1,y.1.2.2.1)) (fun _ _=>rfl) N (fun _ _=>by kernel_rfl) rfl
def U9(_N:Nat)(e:Int)(g:c8)(a:List τ0)(b c:Int):Option τ29:=br (decide ((a.length:Int)>0)) (f5 (l6 a 0) fun l=>br (l.1==e) (f5 (l6 a 0) fun m=>some (m.2.1==g,(a,(b,c)))) (some (false,(a,(b,c))))) (some (false,(a,(b,c))))
abbrev e3M(f:SV [.box 0 0,V0,V1]->BV [.cells [V3,V0,V0]]->Option τ29):AF:={ps:=[.box 0 0,V0,V1],bs:=[.cells [V3,V0,V0]],rs:=[V2],cs:=[.cells [V3,V0,V0]],R:=Bool×List τ0×Int×Int,out:=fun z=>((z.1,()),((z.2.1,z.2.2.1,z.2.2.2,()),())),f:=f}
abbrev e1a:AF:=e3M fun x y=>U9 N x.2.1 x.2.2.1 y.1.1 y.1.2.1 y.1.2.2.1
theorem d42:P7 134 (e1a N):=
 V5 h0 [] G7 Tryz.func134 rfl Tryz.call134 (e1a N) (fun x y=>(x.1,y.1.1,y.1.2.1,y.1.2.2.1)) (fun _ _=>rfl) N (fun _ _=>by kernel_rfl) rfl
def j6(b:Int)(c:c8)(e:List τ0)(g l:Int):Option τ29:=f5 (U9 N b c e g l) fun a=>br (!a.1) (some (false,a.2)) (f5 (slc a.2.1 1 (a.2.1.length:Int)) fun m=>some (true,(m,a.2.2)))
abbrev e3j(f:SV [.box 0 0,V0,V1]->BV [.cells [V3,V0,V0]]->Option τ29):AF:={ps:=[.box 0 0,V0,V1],bs:=[.cells [V3,V0,V0]],rs:=[V2],cs:=[.cells [V3,V0,V0]],R:=Bool×List τ0×Int×Int,out:=fun z=>((z.1,()),((z.2.1,z.2.2.1,z.2.2.2,()),())),f:=f}
abbrev b0f:AF:=e3j fun x y=>j6 N x.2.1 x.2.2.1 y.1.1 y.1.2.1 y.1.2.2.1
theorem R7:P7 74 (b0f N):=
 V5 h0 [(134,e1a N)] (v8 (d42 N) G7) Tryz.func74 rfl Tryz.call74 (b0f N) (fun x y=>(x.1,y.1.1,y.1.2.1,y.1.2.2.1)) (fun _ _=>rfl) N (fun _ _=>by kernel_rfl) rfl
def G1(_N:Nat)(a:UInt8):Option Bool:=br (decide (a>=97)) (some (decide (a<=122))) (some false)
abbrev d9J:=P4 [.v .u8] [] [V2] [] (Bool) fun z=>((z,()),())
abbrev c0H:AF:=d9J fun x _=>G1 N x.1
theorem b1n:P7 33 (c0H N):=
 V5 h0 [] G7 Tryz.func33 rfl Tryz.call33 (c0H N) (fun x _=>x.1) (fun _ _=>rfl) N (fun _ _=>by kernel_rfl) rfl
def G0(_N:Nat)(a:UInt8):Option Bool:=br (decide (a>=48)) (some (decide (a<=57))) (some false)
abbrev d9I:=P4 [.v .u8] [] [V2] [] (Bool) fun z=>((z,()),())
abbrev b7P:AF:=d9I fun x _=>G0 N x.1
theorem a54:P7 36 (b7P N):=
 V5 h0 [] G7 Tryz.func36 rfl Tryz.call36 (b7P N) (fun x _=>x.1) (fun _ _=>rfl) N (fun _ _=>by kernel_rfl) rfl
def a0m(_N:Nat):Option τ23:=some [[109,97,99,114,111],[102,111,114],[105,110],[105,102],[101,108,115,101],[117,115,101],[102,105,108,101,115],[99,104,111,111,115,101]]
abbrev d9Z(f:SV []->BV []->Option τ23):AF:={ps:=[],bs:=[],rs:=[.row 0],cs:=[.row 9 .str false],R:=List c8,out:=fun z=>(((),()),(z,())),f:=f}
abbrev d0V:AF:=d9Z fun _ _=>a0m N
theorem c8a:P7 179 (d0V N):=
 V5 h0 [] G7 Tryz.func179 rfl Tryz.call179 (d0V N) (fun _ y=>y.1) (fun _ _=>rfl) N (fun _ _=>by kernel_rfl) rfl
def c11(_N:Nat)(b:List c8)(c:c8)(e:Int)(k0:Option Int)(self:ρ30)(a:Int):Option Int:=br (decide (a<e)) (f5 (l6 b a) fun g=>br (c==g) (some a) (self (IntKind.i64.wrap (a+1)))) (k0)
def d8b(N:Nat)(a:List c8)(b:c8)(c:Int)(k0:Option Int):Nat->Int->Option Int|0,_=>none|n+1,e=>c11 N a b c k0 (d8b N a b c k0 n) e
def C3(a:List c8)(b:c8):Option Int:=d8b N a b (a.length:Int) (some (-1:Int)) N 0
abbrev e5x:=P4 [V4,V1] [] [V0] [] (Int) fun z=>((z,()),())
abbrev z9g:AF:=e5x fun x _=>C3 N x.1 x.2.1
abbrev e1l:SV [V0]->BV []->Int:=fun x _=>x.1
def e3W(_N:Nat):FuncId->Option Tmp->Option AF:=fun f _=>O5 [] f
theorem d8d:I8 (e3W N):=fun _ _ _ h=>o6 h G7
def z9h:Nat->Hint:=fun i=>
 match i with
 |0=>⟨[],[0,1,7,8],[],[],[],[]⟩
 |_=>o3
abbrev z9E:Env:=S9 z9h (e3W N) FF FF
noncomputable abbrev c8L:Code:=V7 (m9 Tryz.f222) [true,false,true,false,false]
abbrev z9R:=A8 (z9E N) Tryz.f222 (z9g N) e1l
abbrev b3i:List (Nat×Sl):=[(0,V4),(1,V1),(7,V0),(8,V0)]
abbrev b3h:List (Nat×Sb):=[]
def b9l(a:List c8)(b:c8)(c e:Int):St:=⟨19,[(0,.v V6 a),(1,.v .str b),(7,.v τ2 c),(8,.v τ2 e)],[]⟩
def b0D(_a:List c8)(_b:c8)(_c:Int):St:=⟨19,[],[]⟩
def e1i(a:List c8)(b:c8)(c e:Int)(k:Ex->St->Option Int):Option Int:=d8b N a b c (k (.exit 0) (b0D a b c)) N e
abbrev d5x:FV b3i->HV b3h->(Ex->St->Option Int)->Option Int:=fun x _ k=>e1i N x.1 x.2.1 x.2.2.1 x.2.2.2.1 k
def c4U:Nat->Code->St->(Ex->St->Option Int)->Option Int:=fun i c=>
 match i with
 |0=>(LPc 19 b3i b3h (d5x N) (fun st k=>iter (z9h 0) (k6 (z9E N) N c 0) N st k))
 |i=>fun st k=>iter (z9h i) (k6 (z9E N) N c i) N st k
theorem c8K(a:List c8)(b:c8)(c:Int)(KX:Nat->St->Option Int)(I:St->Option Int)(e:Int):
  k7 (c4U N) (z9E N) c8L 0 (b9l a b c e) (p6 (z9h 0) I KX (z9R N))=c11 N a b c (KX 0 (b0D a b c)) (fun e=>I (b9l a b c e)) e:=by kernel_rfl
theorem d8c:∀x y k,(∀st,k .ret st=(z9R N) st)->iter (z9h 0) (k6 (z9E N) N c8L 0) N ⟨19,Y7 b3i x,Y8 b3h y⟩ k=d5x N x y k:=fun x _ k hk=>
 j9 (S:=(Int)×Unit) (z9h 0) _ (k7 (c4U N) (z9E N) c8L 0) (z9R N) (k9 _ _ N _ c8L 0 (show LoopsOk (c4U N) (z9E N) N (z9R N) []from trivial)) (fun s=>b9l x.1 x.2.1 x.2.2.1 s.1) k hk
  (fun self s=>c11 N x.1 x.2.1 x.2.2.1 (k (.exit 0) (b0D x.1 x.2.1 x.2.2.1)) (fun a=>self (a,())) s.1) (fun n s=>d8b N x.1 x.2.1 x.2.2.1 (k (.exit 0) (b0D x.1 x.2.1 x.2.2.1)) n s.1) (fun _=>rfl) (fun _ _=>rfl)
  (fun I s=>c8K N x.1 x.2.1 x.2.2.1 (fun j=>k (.exit j)) I s.1) N (x.2.2.2.1,())
theorem e3Y:F7 (c4U N) (z9E N) N (z9R N) 0 c8L:=fun st k hk=>p8 19 b3i b3h _ _ (z9R N) (d8c N) _ st k hk (rfl)
theorem e1k(x:SV [V4,V1])(y:BV []):F5 (z9E N) Tryz.f222 (z9g N) e1l (c4U N) x y=C3 N x.1 x.2.1:=by kernel_rfl
theorem d8e:P7 222 (z9g N):=
 a1X (d8d N) Tryz.func222 rfl Tryz.call222 (z9g N) e1l (fun _ _=>rfl) N (c4U N) (show LoopsOk (c4U N) (z9E N) N (z9R N) [(0,c8L)]from⟨e3Y N,trivial⟩) (e1k N)
def m8(a:List c8)(b:c8):Option Bool:=f5 (C3 N a b) fun c=>some (decide (c>=0))
abbrev e5d:=P4 [V4,V1] [] [V2] [] (Bool) fun z=>((z,()),())
abbrev z4g:AF:=e5d fun x _=>m8 N x.1 x.2.1
theorem b3e:P7 178 (z4g N):=
 V5 h0 [(222,z9g N)] (v8 (d8e N) G7) Tryz.func178 rfl Tryz.call178 (z4g N) (fun x _=>x.1) (fun _ _=>rfl) N (fun _ _=>by kernel_rfl) rfl
def a9g(b:c8)(c:Int)(k0:Option Bool)(self:ρ29)(a:Int):Option Bool:=br (decide (a<c)) (f5 (l6 b a) fun e=>f5 (G1 N e) fun g=>br (!g) (f5 (l6 b a) fun l=>f5 (G0 N l) fun m=>br (!m) (f5 (l6 b a) fun o=>br (o !=95) (some false) (self (IntKind.i64.wrap (a+1)))) (self (IntKind.i64.wrap (a+1)))) (self (IntKind.i64.wrap (a+1)))) (k0)
def b4H(N:Nat)(a:c8)(b:Int)(k0:Option Bool):Nat->Int->Option Bool|0,_=>none|n+1,c=>a9g N a b k0 (b4H N a b k0 n) c
def A9(a:c8):Option Bool:=br (decide ((a.length:Int)<1)) (some false) (br (decide ((a.length:Int)>40)) (some false) (f5 (l6 a 0) fun b=>f5 (G1 N b) fun c=>br (!c) (some false) (b4H N a (a.length:Int) (f5 (a0m N) fun e=>f5 (m8 N e a) fun g=>some (!g)) N 0)))
abbrev d9L:=P4 [V1] [] [V2] [] (Bool) fun z=>((z,()),())
abbrev b4J:AF:=d9L fun x _=>A9 N x.1
abbrev c3i:SV [V2]->BV []->Bool:=fun x _=>x.1
def d0q:FuncId->Option Tmp->Option AF:=fun f _=>O5 [(33,c0H N),(36,b7P N),(178,z4g N),(179,d0V N)] f
theorem c7G:I8 (d0q N):=fun _ _ _ h=>o6 h (v8 (b1n N) (v8 (a54 N) (v8 (b3e N) (v8 (c8a N) G7))))
def b7S:Nat->Hint:=fun i=>
 match i with
 |0=>⟨[],[0,19,20],[],[0],[],[]⟩
 |_=>o3
abbrev a7E:Env:=S9 b7S (d0q N) FF FF
noncomputable abbrev b1t:Code:=V7 (m9 Tryz.f135) [true,true,false,true,false,false]
abbrev b4I:=A8 (a7E N) Tryz.f135 (b4J N) c3i
abbrev a6b:List (Nat×Sl):=[(0,V1),(19,V0),(20,V0)]
abbrev a6a:List (Nat×Sb):=[]
def b1s(a:c8)(b c:Int):St:=⟨46,[(0,.v .str a),(19,.v τ2 b),(20,.v τ2 c)],[]⟩
def a3R(a:c8)(_b:Int):St:=⟨46,[(0,.v .str a)],[]⟩
def d0o(a:c8)(b c:Int)(k:Ex->St->Option Bool):Option Bool:=b4H N a b (k (.exit 0) (a3R a b)) N c
abbrev c0O:FV a6b->HV a6a->(Ex->St->Option Bool)->Option Bool:=fun x _ k=>d0o N x.1 x.2.1 x.2.2.1 k
def a8n:Nat->Code->St->(Ex->St->Option Bool)->Option Bool:=fun i c=>
 match i with
 |0=>(LPc 46 a6b a6a (c0O N) (fun st k=>iter (b7S 0) (k6 (a7E N) N c 0) N st k))
 |i=>fun st k=>iter (b7S i) (k6 (a7E N) N c i) N st k
theorem c0P(a:c8)(b:Int)(KX:Nat->St->Option Bool)(I:St->Option Bool)(c:Int):
  k7 (a8n N) (a7E N) b1t 0 (b1s a b c) (p6 (b7S 0) I KX (b4I N))=a9g N a b (KX 0 (a3R a b)) (fun c=>I (b1s a b c)) c:=by kernel_rfl
theorem c7F:∀x y k,(∀st,k .ret st=(b4I N) st)->iter (b7S 0) (k6 (a7E N) N b1t 0) N ⟨46,Y7 a6b x,Y8 a6a y⟩ k=c0O N x y k:=fun x _ k hk=>
 j9 (S:=(Int)×Unit) (b7S 0) _ (k7 (a8n N) (a7E N) b1t 0) (b4I N) (k9 _ _ N _ b1t 0 (show LoopsOk (a8n N) (a7E N) N (b4I N) []from trivial)) (fun s=>b1s x.1 x.2.1 s.1) k hk
  (fun self s=>a9g N x.1 x.2.1 (k (.exit 0) (a3R x.1 x.2.1)) (fun a=>self (a,())) s.1) (fun n s=>b4H N x.1 x.2.1 (k (.exit 0) (a3R x.1 x.2.1)) n s.1) (fun _=>rfl) (fun _ _=>rfl)
  (fun I s=>c0P N x.1 x.2.1 (fun j=>k (.exit j)) I s.1) N (x.2.2.1,())
theorem d6r:F7 (a8n N) (a7E N) N (b4I N) 0 b1t:=fun st k hk=>p8 46 a6b a6a _ _ (b4I N) (c7F N) _ st k hk (rfl)
theorem d0p(x:SV [V1])(y:BV []):F5 (a7E N) Tryz.f135 (b4J N) c3i (a8n N) x y=A9 N x.1:=by kernel_rfl
theorem b1u:P7 135 (b4J N):=
 a1X (c7G N) Tryz.func135 rfl Tryz.call135 (b4J N) c3i (fun _ _=>rfl) N (a8n N) (show LoopsOk (a8n N) (a7E N) N (b4I N) [(0,b1t)]from⟨d6r N,trivial⟩) (d0p N)
def l9(a:List τ0)(b c:Int):Option (Except Int τ24):=br ((a.length:Int)==0) (l7 (o8 N a b c) fun e=>f5 (l6 e.1 0) fun m=>f5 (slc e.1 1 (e.1.length:Int)) fun o=>some (.ok (m.2.1,(o,e.2)))) (f5 (l6 a 0) fun p=>br (p.1 !=1) (l7 (o8 N a b c) fun g=>f5 (l6 g.1 0) fun q=>f5 (slc g.1 1 (g.1.length:Int)) fun r=>some (.ok (q.2.1,(r,g.2)))) (f5 (l6 a 0) fun t=>f5 (A9 N t.2.1) fun u=>br (!u) (l7 (o8 N a b c) fun l=>f5 (l6 l.1 0) fun v=>f5 (slc l.1 1 (l.1.length:Int)) fun w=>some (.ok (v.2.1,(w,l.2)))) (f5 (l6 a 0) fun B=>f5 (slc a 1 (a.length:Int)) fun C=>some (.ok (B.2.1,(C,(b,c)))))))
abbrev e3g(f:SV [.box 0 0]->BV [.cells [V3,V0,V0]]->Option (Except Int τ24)):PF:={ps:=[.box 0 0],bs:=[.cells [V3,V0,V0]],rs:=[V1],cs:=[.cells [V3,V0,V0]],R:=c8×List τ0×Int×Int,out:=fun z=>((z.1,()),((z.2.1,z.2.2.1,z.2.2.2,()),())),f:=f}
abbrev c1N:PF:=e3g fun _ y=>l9 N y.1.1 y.1.2.1 y.1.2.2.1
def d38:FuncId->Option Tmp->Option AF:=fun f _=>O5 [(135,b4J N)] f
theorem d39:I8 (d38 N):=fun _ _ _ h=>o6 h (v8 (b1u N) G7)
def c6n:FuncId->Option Tmp->Option PF:=fun f _=>
 match f with
  |136=>some (c8F N)
  |_=>none
theorem d4a:∀f q F,c6n N f q=some F->SoundP Tryz.prog GW B7 c2n f F:=by
 intro f q F h
 unfold c6n at h
 split at h
 ·cases h;exact a5u N
 ·cases h
def e3f:Nat->Hint:=fun i=>
 match i with
 |_=>o3
abbrev e5j:Env:=a0I e3f (d38 N) (c6n N) (fun _=>false) (fun _=>false)
theorem a25:SoundP Tryz.prog GW B7 c2n 75 (c1N N):=
 a0p (e5j N) (D6 e3f (d38 N) (c6n N) _ _ (d39 N) (d4a N)) Tryz.func75 rfl Tryz.call75 (c1N N) (fun x y=>(x.1,y.1.1,y.1.2.1,y.1.2.2.1)) (fun _ _=>rfl) N (fun _ _=>by kernel_rfl) rfl
def g8(b:c8)(c:List τ0)(e g:Int):Option (Except Int τ17):=f5 (j6 N 4 b c e g) fun a=>br (!a.1) (l7 (o8 N a.2.1 a.2.2.1 a.2.2.2) fun l=>some (.ok l)) (some (.ok a.2))
abbrev e3i(f:SV [.box 0 0,V1]->BV [.cells [V3,V0,V0]]->Option (Except Int τ17)):PF:={ps:=[.box 0 0,V1],bs:=[.cells [V3,V0,V0]],rs:=[],cs:=[.cells [V3,V0,V0]],R:=List τ0×Int×Int,out:=fun z=>((),((z.1,z.2.1,z.2.2,()),())),f:=f}
abbrev b0e:PF:=e3i fun x y=>g8 N x.2.1 y.1.1 y.1.2.1 y.1.2.2.1
def d4b:FuncId->Option Tmp->Option AF:=fun f _=>O5 [(74,b0f N)] f
theorem d4c:I8 (d4b N):=fun _ _ _ h=>o6 h (v8 (R7 N) G7)
def c6o:FuncId->Option Tmp->Option PF:=fun f _=>
 match f with
  |136=>some (c8F N)
  |_=>none
theorem d4d:∀f q F,c6o N f q=some F->SoundP Tryz.prog GW B7 c2n f F:=by
 intro f q F h
 unfold c6o at h
 split at h
 ·cases h;exact a5u N
 ·cases h
def e3h:Nat->Hint:=fun i=>
 match i with
 |_=>o3
abbrev e5k:Env:=a0I e3h (d4b N) (c6o N) (fun _=>false) (fun _=>false)
theorem R6:SoundP Tryz.prog GW B7 c2n 76 (b0e N):=
 a0p (e5k N) (D6 e3h (d4b N) (c6o N) _ _ (d4c N) (d4d N)) Tryz.func76 rfl Tryz.call76 (b0e N) (fun _ y=>(y.1.1,y.1.2.1,y.1.2.2.1)) (fun _ _=>rfl) N (fun _ _=>by kernel_rfl) rfl
def x9(b:Int)(c e:c8)(g:Int)(l:c8)(m o:Int)(p:List τ0)(q r:Int):Option (Except Int τ21):=n7 (l7 (l9 N p q r) fun a=>br (decide ([a.1].length*(24*Ty.sz .str)<=140737488355328)) (some (.ok (b,(c,(e,(g,(l,(m,(o,(a.2.1,(a.2.2.1,(a.2.2.2,[a.1])))))))))))) none) (n7 (l7 (l9 N p q r) fun a=>br (decide ([a.1].length*(24*Ty.sz .str)<=140737488355328)) (some (.ok (b,(c,(e,(g,(l,(m,(o,(a.2.1,(a.2.2.1,(a.2.2.2,[a.1])))))))))))) none) (l7 (l9 N p q r) fun a=>j0 1 (br (decide ([a.1].length*(24*Ty.sz .str)<=140737488355328)) (some (.ok (b,(c,(e,(g,(l,(m,(o,(a.2.1,(a.2.2.1,(a.2.2.2,[a.1])))))))))))) none)))
abbrev e1W(f:SV [.box 0 0,.box 1 0]->BV [.cells [V0,V1,V1,.nilS,.nilS,V0,V1,V0,.nilS,.nilS,.nilS,.nilS,V0],.cells [.box 2 0],.cells [V3,V0,V0]]->Option (Except Int τ21)):PF:={ps:=[.box 0 0,.box 1 0],bs:=[.cells [V0,V1,V1,.nilS,.nilS,V0,V1,V0,.nilS,.nilS,.nilS,.nilS,V0],.cells [.box 2 0],.cells [V3,V0,V0]],rs:=[],cs:=[.cells [V0,V1,V1,.row 3,.nilS,V0,V1,V0,.nilS,.nilS,.nilS,.nilS,V0],.cells [.box 2 0],.cells [V3,V0,V0],.row 9 .str false],R:=Int×c8×c8×Int×c8×Int×Int×List τ0×Int×Int×List c8,out:=fun z=>((),((z.1,z.2.1,z.2.2.1,(),(),z.2.2.2.1,z.2.2.2.2.1,z.2.2.2.2.2.1,(),(),(),(),z.2.2.2.2.2.2.1,()),((),()),(z.2.2.2.2.2.2.2.1,z.2.2.2.2.2.2.2.2.1,z.2.2.2.2.2.2.2.2.2.1,()),z.2.2.2.2.2.2.2.2.2.2,())),f:=f}
abbrev d9M:PF:=e1W fun _ y=>x9 N y.1.1 y.1.2.1 y.1.2.2.1 y.1.2.2.2.2.2.1 y.1.2.2.2.2.2.2.1 y.1.2.2.2.2.2.2.2.1 y.1.2.2.2.2.2.2.2.2.2.2.2.2.1 y.2.2.1.1 y.2.2.1.2.1 y.2.2.1.2.2.1
def d0r(_N:Nat):FuncId->Option Tmp->Option AF:=fun f _=>O5 [] f
theorem d0s:I8 (d0r N):=fun _ _ _ h=>o6 h G7
def c5A:FuncId->Option Tmp->Option PF:=fun f _=>
 match f with
  |75=>some (c1N N)
  |_=>none
theorem d0t:∀f q F,c5A N f q=some F->SoundP Tryz.prog GW B7 c2n f F:=by
 intro f q F h
 unfold c5A at h
 split at h
 ·cases h;exact a25 N
 ·cases h
def e1V:Nat->Hint:=fun i=>
 match i with
 |100000=>⟨[],[1,2],[],[],[],[]⟩
 |_=>o3
abbrev e4U:Env:=a0I e1V (d0r N) (c5A N) (fun _=>false) (fun _=>false)
theorem d0u:SoundP Tryz.prog GW B7 c2n 78 (d9M N):=
 a0p (e4U N) (D6 e1V (d0r N) (c5A N) _ _ (d0s N) (d0t N)) Tryz.func78 rfl Tryz.call78 (d9M N) (fun _ y=>(y.1.1,y.1.2.1,y.1.2.2.1,y.1.2.2.2.2.2.1,y.1.2.2.2.2.2.2.1,y.1.2.2.2.2.2.2.2.1,y.1.2.2.2.2.2.2.2.2.2.2.2.2.1,y.2.2.1.1,y.2.2.1.2.1,y.2.2.1.2.2.1,y.2.2.2.1)) (fun _ _=>rfl) N (fun _ _=>by kernel_rfl) rfl
def y7(c:Int)(e g:c8)(l:Int)(m:c8)(o p:Int)(b:List c8)(q:List τ0)(r t:Int):Option (Except Int τ22):=n7 (l7 (l9 N q r t) fun a=>br (decide ((b.length + [a.1].length)*(24*Ty.sz .str)<=140737488355328)) (some (.ok (c,(e,(g,(l,(m,(o,(p,(b ++ [a.1],a.2)))))))))) none) (n7 (l7 (l9 N q r t) fun a=>br (decide ((b.length + [a.1].length)*(24*Ty.sz .str)<=140737488355328)) (some (.ok (c,(e,(g,(l,(m,(o,(p,(b ++ [a.1],a.2)))))))))) none) (l7 (l9 N q r t) fun a=>j0 1 (br (decide ((b.length + [a.1].length)*(24*Ty.sz .str)<=140737488355328)) (some (.ok (c,(e,(g,(l,(m,(o,(p,(b ++ [a.1],a.2)))))))))) none)))
abbrev e5i(f:SV [.box 0 0,.box 1 0]->BV [.cells [V0,V1,V1,.row 2,.nilS,V0,V1,V0,.nilS,.nilS,.nilS,.nilS,V0],.cells [.box 3 0],.row 9 .str false,.cells [V3,V0,V0]]->Option (Except Int τ22)):PF:={ps:=[.box 0 0,.box 1 0],bs:=[.cells [V0,V1,V1,.row 2,.nilS,V0,V1,V0,.nilS,.nilS,.nilS,.nilS,V0],.cells [.box 3 0],.row 9 .str false,.cells [V3,V0,V0]],rs:=[],cs:=[.cells [V0,V1,V1,.row 2,.nilS,V0,V1,V0,.nilS,.nilS,.nilS,.nilS,V0],.cells [.box 3 0],.row 9 .str false,.cells [V3,V0,V0]],R:=Int×c8×c8×Int×c8×Int×Int×List c8×List τ0×Int×Int,out:=fun z=>((),((z.1,z.2.1,z.2.2.1,(),(),z.2.2.2.1,z.2.2.2.2.1,z.2.2.2.2.2.1,(),(),(),(),z.2.2.2.2.2.2.1,()),((),()),z.2.2.2.2.2.2.2.1,(z.2.2.2.2.2.2.2.2.1,z.2.2.2.2.2.2.2.2.2.1,z.2.2.2.2.2.2.2.2.2.2,()),())),f:=f}
abbrev z5g:PF:=e5i fun _ y=>y7 N y.1.1 y.1.2.1 y.1.2.2.1 y.1.2.2.2.2.2.1 y.1.2.2.2.2.2.2.1 y.1.2.2.2.2.2.2.2.1 y.1.2.2.2.2.2.2.2.2.2.2.2.2.1 y.2.2.1 y.2.2.2.1.1 y.2.2.2.1.2.1 y.2.2.2.1.2.2.1
def e0R(_N:Nat):FuncId->Option Tmp->Option AF:=fun f _=>O5 [] f
theorem d7D:I8 (e0R N):=fun _ _ _ h=>o6 h G7
def d7E:FuncId->Option Tmp->Option PF:=fun f _=>
 match f with
  |75=>some (c1N N)
  |_=>none
theorem d7F:∀f q F,d7E N f q=some F->SoundP Tryz.prog GW B7 c2n f F:=by
 intro f q F h
 unfold d7E at h
 split at h
 ·cases h;exact a25 N
 ·cases h
def z5h:Nat->Hint:=fun i=>
 match i with
 |100000=>⟨[],[1,2],[],[],[],[]⟩
 |_=>o3
abbrev z5E:Env:=a0I z5h (e0R N) (d7E N) (fun _=>false) (fun _=>false)
theorem d7G:SoundP Tryz.prog GW B7 c2n 78 (z5g N):=
 a0p (z5E N) (D6 z5h (e0R N) (d7E N) _ _ (d7D N) (d7F N)) Tryz.func78 rfl Tryz.call78 (z5g N) (fun _ y=>(y.1.1,y.1.2.1,y.1.2.2.1,y.1.2.2.2.2.2.1,y.1.2.2.2.2.2.2.1,y.1.2.2.2.2.2.2.2.1,y.1.2.2.2.2.2.2.2.2.2.2.2.2.1,y.2.2.1,y.2.2.2.1.1,y.2.2.2.1.2.1,y.2.2.2.1.2.2.1)) (fun _ _=>rfl) N (fun _ _=>by kernel_rfl) rfl
end
end
noncomputable section
noncomputable section
variable(N:Nat)
def b6c(k0 self:ρ13)(r:List τ0)(t u c:Int)(e g:c8)(l:Int)(m:c8)(o p:Int)(q:List c8):Option (Except Int τ7):=f5 (j6 N 4 [44] r t u) fun b=>br (b.1) (l7 (y7 N c e g l m o p q b.2.1 b.2.2.1 b.2.2.2) fun a=>self a.2.2.2.2.2.2.2.2.1 a.2.2.2.2.2.2.2.2.2.1 a.2.2.2.2.2.2.2.2.2.2 a.1 a.2.1 a.2.2.1 a.2.2.2.1 a.2.2.2.2.1 a.2.2.2.2.2.1 a.2.2.2.2.2.2.1 a.2.2.2.2.2.2.2.1) (k0 b.2.1 b.2.2.1 b.2.2.2 c e g l m o p q)
def b6b(N:Nat)(k0:ρ13):Nat->τ5->Int->Int->Int->c8->c8->Int->c8->Int->Int->τ23->Option (Except Int τ7)|0,_,_,_,_,_,_,_,_,_,_,_=>none|n+1,a,b,c,e,g,l,m,o,p,q,r=>b6c N k0 (b6b N k0 n) a b c e g l m o p q r
def J9(e:c8)(U:Bool)(Q:List τ0)(R T g:Int)(l m:c8)(o:Int)(p:c8)(q r:Int):Option (Except Int τ7):=br (U) (f5 (j6 N 4 e Q R T) fun c=>br (c.1) (some (.ok (c.2.1,(c.2.2.1,(c.2.2.2,(g,(l,(m,([],(o,(p,(q,r)))))))))))) (l7 (x9 N g l m o p q r c.2.1 c.2.2.1 c.2.2.2) fun a=>b6b N (fun t u v w B C D E H J K=>l7 (g8 N e t u v) fun L=>some (.ok (L.1,(L.2.1,(L.2.2,(w,(B,(C,(K,(D,(E,(H,J)))))))))))) N a.2.2.2.2.2.2.2.1 a.2.2.2.2.2.2.2.2.1 a.2.2.2.2.2.2.2.2.2.1 a.1 a.2.1 a.2.2.1 a.2.2.2.1 a.2.2.2.2.1 a.2.2.2.2.2.1 a.2.2.2.2.2.2.1 a.2.2.2.2.2.2.2.2.2.2)) (l7 (x9 N g l m o p q r Q R T) fun b=>b6b N (fun t u v w B C D E H J K=>l7 (g8 N e t u v) fun O=>some (.ok (O.1,(O.2.1,(O.2.2,(w,(B,(C,(K,(D,(E,(H,J)))))))))))) N b.2.2.2.2.2.2.2.1 b.2.2.2.2.2.2.2.2.1 b.2.2.2.2.2.2.2.2.2.1 b.1 b.2.1 b.2.2.1 b.2.2.2.1 b.2.2.2.2.1 b.2.2.2.2.2.1 b.2.2.2.2.2.2.1 b.2.2.2.2.2.2.2.2.2.2)
abbrev e3x(f:SV [.box 0 0,V1,V2,.fnc 78 [1,2]]->BV [.cells [V3,V0,V0],.cells [V0,V1,V1,.nilS,.nilS,V0,V1,V0,.nilS,.nilS,.nilS,.nilS,V0],.cells [.box 0 0]]->Option (Except Int τ7)):PF:={ps:=[.box 0 0,V1,V2,.fnc 78 [1,2]],bs:=[.cells [V3,V0,V0],.cells [V0,V1,V1,.nilS,.nilS,V0,V1,V0,.nilS,.nilS,.nilS,.nilS,V0],.cells [.box 0 0]],rs:=[],cs:=[.cells [V3,V0,V0],.cells [V0,V1,V1,V4,.nilS,V0,V1,V0,.nilS,.nilS,.nilS,.nilS,V0],.cells [.box 0 0]],R:=List τ0×Int×Int×Int×c8×c8×List c8×Int×c8×Int×Int,out:=fun z=>((),((z.1,z.2.1,z.2.2.1,()),(z.2.2.2.1,z.2.2.2.2.1,z.2.2.2.2.2.1,z.2.2.2.2.2.2.1,(),z.2.2.2.2.2.2.2.1,z.2.2.2.2.2.2.2.2.1,z.2.2.2.2.2.2.2.2.2.1,(),(),(),(),z.2.2.2.2.2.2.2.2.2.2,()),((),()),())),f:=f}
abbrev d4C:PF:=e3x fun x y=>J9 N x.2.1 x.2.2.1 y.1.1 y.1.2.1 y.1.2.2.1 y.2.1.1 y.2.1.2.1 y.2.1.2.2.1 y.2.1.2.2.2.2.2.1 y.2.1.2.2.2.2.2.2.1 y.2.1.2.2.2.2.2.2.2.1 y.2.1.2.2.2.2.2.2.2.2.2.2.2.2.1
abbrev d4E:SV []->BV [.cells [V3,V0,V0],.cells [V0,V1,V1,V4,.nilS,V0,V1,V0,.nilS,.nilS,.nilS,.nilS,V0],.cells [.box 0 0]]->τ7:=fun _ y=>(y.1.1,y.1.2.1,y.1.2.2.1,y.2.1.1,y.2.1.2.1,y.2.1.2.2.1,y.2.1.2.2.2.1,y.2.1.2.2.2.2.2.1,y.2.1.2.2.2.2.2.2.1,y.2.1.2.2.2.2.2.2.2.1,y.2.1.2.2.2.2.2.2.2.2.2.2.2.2.1)
abbrev d8Q:SV []->BV [.cells [V3,V0,V0],.cells [V0,V1,V1,V4,.nilS,V0,V1,V0,.nilS,.nilS,.nilS,.nilS,V0],.cells [.box 0 0]]->Except Int τ7:=fun x y=> .ok (d4E x y)
def d4A:FuncId->Option Tmp->Option AF:=fun f _=>O5 [(74,b0f N)] f
theorem d4B:I8 (d4A N):=fun _ _ _ h=>o6 h (v8 (R7 N) G7)
def c6t:FuncId->Option Tmp->Option PF:=fun f q=>
 match f with
  |76=>some (b0e N)
  |78=>match q with|some 15=>some (d9M N)|some 19=>some (z5g N)|_=>none
  |_=>none
theorem d4D:∀f q F,c6t N f q=some F->SoundP Tryz.prog GW B7 c2n f F:=by
 intro f q F h
 unfold c6t at h
 split at h
 ·cases h;exact R6 N
 ·split at h
  ·cases h;exact d0u N
  ·cases h;exact d7G N
  ·cases h
 ·cases h
def c4z:Nat->Hint:=fun i=>
 match i with
 |0=>⟨[],[0,1,3],[0,1,2,101500],[0,1],[0,1,2,101500],[]⟩
 |_=>o3
abbrev b6a:Env:=a0I c4z (d4A N) (c6t N) (fun _=>false) (fun _=>false)
abbrev c4y:=A8 (b6a N) Tryz.f77 (PF.tf (d4C N)) d8Q
noncomputable abbrev S8:Code:=V7 (m9 Tryz.f77) [true,true,false,false,false]
abbrev b0i:List (Nat×Sl):=[(0,.box 0 0),(1,V1),(3,.fnc 78 [1,2])]
abbrev b0h:List (Nat×Sb):=[(0,.cells [V3,V0,V0]),(1,.cells [V0,V1,V1,.row 101500,.nilS,V0,V1,V0,.nilS,.nilS,.nilS,.nilS,V0]),(2,.cells [.box 0 0]),(101500,.row 9 .str false)]
def b6d(a:c8)(b:List τ0)(c e g:Int)(l m:c8)(o:Int)(p:c8)(q r:Int)(t:List c8):St:=⟨23,[(0,.box 0 0),(1,.v .str a),(3,.fnc 78 [1,2])],[(0,.cells [.v (.sl τ1) b,.v τ2 c,.v τ2 e]),(1,.cells [.v τ2 g,.v .str l,.v .str m,.row 101500,.nilS,.v τ2 o,.v .str p,.v τ2 q,.nilS,.nilS,.nilS,.nilS,.v τ2 r]),(2,.cells [.box 0 0]),(101500,.row 9 .str false t)]⟩
def a68(a:c8)(b:List τ0)(c e g:Int)(l m:c8)(o:Int)(p:c8)(q r:Int)(t:List c8):St:=⟨23,[(0,.box 0 0),(1,.v .str a)],[(0,.cells [.v (.sl τ1) b,.v τ2 c,.v τ2 e]),(1,.cells [.v τ2 g,.v .str l,.v .str m,.row 101500,.nilS,.v τ2 o,.v .str p,.v τ2 q,.nilS,.nilS,.nilS,.nilS,.v τ2 r]),(2,.cells [.box 0 0]),(101500,.row 9 .str false t)]⟩
def d7K(a:c8)(b:List τ0)(c e g:Int)(l m:c8)(o:Int)(p:c8)(q r:Int)(t:List c8)(k:Ex->St->Option (Except Int τ7)):Option (Except Int τ7):=b6b N (fun u v w B C D E H J K L=>k (.exit 0) (a68 a u v w B C D E H J K L)) N b c e g l m o p q r t
abbrev c6s:FV b0i->HV b0h->(Ex->St->Option (Except Int τ7))->Option (Except Int τ7):=fun x y k=>d7K N x.2.1 y.1.1 y.1.2.1 y.1.2.2.1 y.2.1.1 y.2.1.2.1 y.2.1.2.2.1 y.2.1.2.2.2.2.2.1 y.2.1.2.2.2.2.2.2.1 y.2.1.2.2.2.2.2.2.2.1 y.2.1.2.2.2.2.2.2.2.2.2.2.2.2.1 y.2.2.2.1 k
def b6e:Nat->Code->St->(Ex->St->Option (Except Int τ7))->Option (Except Int τ7):=fun i c=>
 match i with
 |0=>(LPc 23 b0i b0h (c6s N) (fun st k=>iter (c4z 0) (k6 (b6a N) N c 0) N st k))
 |i=>fun st k=>iter (c4z i) (k6 (b6a N) N c i) N st k
theorem c4x(t:c8)(KX:Nat->St->Option (Except Int τ7))(I:St->Option (Except Int τ7))(a:List τ0)(b c e:Int)(g l:c8)(m:Int)(o:c8)(p q:Int)(r:List c8):
  k7 (b6e N) (b6a N) S8 0 (b6d t a b c e g l m o p q r) (p6 (c4z 0) I KX (c4y N))=b6c N (fun u v w B C D E H J K L=>KX 0 (a68 t u v w B C D E H J K L)) (fun a b c e g l m o p q r=>I (b6d t a b c e g l m o p q r)) a b c e g l m o p q r:=by kernel_rfl
theorem d4z:∀x y k,(∀st,k .ret st=(c4y N) st)->iter (c4z 0) (k6 (b6a N) N S8 0) N ⟨23,Y7 b0i x,Y8 b0h y⟩ k=c6s N x y k:=fun x y k hk=>
 j9 (S:=τ5×(Int)×(Int)×(Int)×(c8)×(c8)×(Int)×(c8)×(Int)×(Int)×τ23×Unit) (c4z 0) _ (k7 (b6e N) (b6a N) S8 0) (c4y N) (k9 _ _ N _ S8 0 (show LoopsOk (b6e N) (b6a N) N (c4y N) []from trivial)) (fun s=>b6d x.2.1 s.1 s.2.1 s.2.2.1 s.2.2.2.1 s.2.2.2.2.1 s.2.2.2.2.2.1 s.2.2.2.2.2.2.1 s.2.2.2.2.2.2.2.1 s.2.2.2.2.2.2.2.2.1 s.2.2.2.2.2.2.2.2.2.1 s.2.2.2.2.2.2.2.2.2.2.1) k hk
  (fun self s=>b6c N (fun a b c e g l m o p q r=>k (.exit 0) (a68 x.2.1 a b c e g l m o p q r)) (fun t u v w B C D E H J K=>self (t,u,v,w,B,C,D,E,H,J,K,())) s.1 s.2.1 s.2.2.1 s.2.2.2.1 s.2.2.2.2.1 s.2.2.2.2.2.1 s.2.2.2.2.2.2.1 s.2.2.2.2.2.2.2.1 s.2.2.2.2.2.2.2.2.1 s.2.2.2.2.2.2.2.2.2.1 s.2.2.2.2.2.2.2.2.2.2.1) (fun n s=>b6b N (fun a b c e g l m o p q r=>k (.exit 0) (a68 x.2.1 a b c e g l m o p q r)) n s.1 s.2.1 s.2.2.1 s.2.2.2.1 s.2.2.2.2.1 s.2.2.2.2.2.1 s.2.2.2.2.2.2.1 s.2.2.2.2.2.2.2.1 s.2.2.2.2.2.2.2.2.1 s.2.2.2.2.2.2.2.2.2.1 s.2.2.2.2.2.2.2.2.2.2.1) (fun _=>rfl) (fun _ _=>rfl)
  (fun I s=>c4x N x.2.1 (fun j=>k (.exit j)) I s.1 s.2.1 s.2.2.1 s.2.2.2.1 s.2.2.2.2.1 s.2.2.2.2.2.1 s.2.2.2.2.2.2.1 s.2.2.2.2.2.2.2.1 s.2.2.2.2.2.2.2.2.1 s.2.2.2.2.2.2.2.2.2.1 s.2.2.2.2.2.2.2.2.2.2.1) N (y.1.1,y.1.2.1,y.1.2.2.1,y.2.1.1,y.2.1.2.1,y.2.1.2.2.1,y.2.1.2.2.2.2.2.1,y.2.1.2.2.2.2.2.2.1,y.2.1.2.2.2.2.2.2.2.1,y.2.1.2.2.2.2.2.2.2.2.2.2.2.2.1,y.2.2.2.1,())
theorem e0Z:F7 (b6e N) (b6a N) N (c4y N) 0 S8:=fun st k hk=>p8 23 b0i b0h _ _ (c4y N) (d4z N) _ st k hk (rfl)
theorem d7L(x:SV [.box 0 0,V1,V2,.fnc 78 [1,2]])(y:BV [.cells [V3,V0,V0],.cells [V0,V1,V1,.nilS,.nilS,V0,V1,V0,.nilS,.nilS,.nilS,.nilS,V0],.cells [.box 0 0]]):F5 (b6a N) Tryz.f77 (PF.tf (d4C N)) d8Q (b6e N) x y=J9 N x.2.1 x.2.2.1 y.1.1 y.1.2.1 y.1.2.2.1 y.2.1.1 y.2.1.2.1 y.2.1.2.2.1 y.2.1.2.2.2.2.2.1 y.2.1.2.2.2.2.2.2.1 y.2.1.2.2.2.2.2.2.2.1 y.2.1.2.2.2.2.2.2.2.2.2.2.2.2.1:=by kernel_rfl
theorem d4F:SoundP Tryz.prog GW B7 c2n 77 (d4C N):=
 b4k (b6a N) (D6 c4z (d4A N) (c6t N) _ _ (d4B N) (d4D N)) Tryz.func77 rfl Tryz.call77 (d4C N) d4E (fun _ _=>rfl) N (b6e N) (show LoopsOk (b6e N) (b6a N) N (c4y N) [(0,S8)]from⟨e0Z N,trivial⟩) (d7L N)
abbrev a9v(f:SV [.box 0 0,V0]->BV [.cells [V3,V0,V0]]->Option (Except Int (GStmt×List τ0×Int×Int))):PF:={ps:=[.box 0 0,V0],bs:=[.cells [V3,V0,V0]],rs:=[.v τ16],cs:=[.cells [V3,V0,V0]],R:=GStmt×List τ0×Int×Int,out:=fun z=>((z.1,()),((z.2.1,z.2.2.1,z.2.2.2,()),())),f:=f}
end
end
end Go.Proofs.YtolpmfhiegpohaaGreatDoor
