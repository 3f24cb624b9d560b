/- What functions of the program compute, as plain functions (printed). -/
import Derived.Test.YtolpmfhiegpohaaGreatDoorQBmFa
namespace Go.Proofs.YtolpmfhiegpohaaGreatDoor
set_option maxRecDepth 100000
set_option linter.unusedVariables false
open Go Go.RowKit
noncomputable section
noncomputable section
variable(N:Nat)
def M8(_N:Nat)(e g:Int)(a:List τ0)(b c:Int):Option τ9:=br (decide (g>=30)) (br (decide (c<0)) (some (a,(b,e))) (some (a,(b,c)))) (some (a,(b,c)))
abbrev e27(f:SV [.box 0 0,V0,V0]->BV [.cells [V2,V0,V0]]->Option τ9):AF:={ps:=[.box 0 0,V0,V0],bs:=[.cells [V2,V0,V0]],rs:=[],cs:=[.cells [V2,V0,V0]],R:=List τ0×Int×Int,out:=fun z=>((),((z.1,z.2.1,z.2.2,()),())),f:=f}
abbrev d7v:AF:=e27 fun x y=>M8 N x.2.1 x.2.2.1 y.1.1 y.1.2.1 y.1.2.2.1
theorem c1I:P7 73 (d7v N):=
 V5 h0 [] G7 Tryz.func73 rfl Tryz.call73 (d7v N) (fun _ y=>(y.1.1,y.1.2.1,y.1.2.2.1)) (fun _ _=>rfl) N (fun _ _=>by kernel_rfl) rfl
def U9(_N:Nat)(e:Int)(g:c8)(a:List τ0)(b c:Int):Option τ21:=br (decide ((a.length:Int)>0)) (f5 (l6 a 0) fun l=>br (l.1==e) (f5 (l6 a 0) fun m=>some (m.2.1==g,(a,(b,c)))) (some (false,(a,(b,c))))) (some (false,(a,(b,c))))
abbrev b2K(f:SV [.box 0 0,V0,V1]->BV [.cells [V2,V0,V0]]->Option τ21):AF:={ps:=[.box 0 0,V0,V1],bs:=[.cells [V2,V0,V0]],rs:=[.v .bool],cs:=[.cells [V2,V0,V0]],R:=Bool×List τ0×Int×Int,out:=fun z=>((z.1,()),((z.2.1,z.2.2.1,z.2.2.2,()),())),f:=f}
abbrev f5i:AF:=b2K fun x y=>U9 N x.2.1 x.2.2.1 y.1.1 y.1.2.1 y.1.2.2.1
theorem c1O:P7 134 (f5i N):=
 V5 h0 [] G7 Tryz.func134 rfl Tryz.call134 (f5i N) (fun x y=>(x.1,y.1.1,y.1.2.1,y.1.2.2.1)) (fun _ _=>rfl) N (fun _ _=>by kernel_rfl) rfl
def j6(b:Int)(c:c8)(e:List τ0)(g l:Int):Option τ21:=f5 (U9 N b c e g l) fun a=>br (!a.1) (some (false,a.2)) (f5 (slc a.2.1 1 (a.2.1.length:Int)) fun m=>some (true,(m,a.2.2)))
abbrev e3b(f:SV [.box 0 0,V0,V1]->BV [.cells [V2,V0,V0]]->Option τ21):AF:={ps:=[.box 0 0,V0,V1],bs:=[.cells [V2,V0,V0]],rs:=[.v .bool],cs:=[.cells [V2,V0,V0]],R:=Bool×List τ0×Int×Int,out:=fun z=>((z.1,()),((z.2.1,z.2.2.1,z.2.2.2,()),())),f:=f}
abbrev e0P:AF:=e3b fun x y=>j6 N x.2.1 x.2.2.1 y.1.1 y.1.2.1 y.1.2.2.1
theorem d32:P7 74 (e0P N):=
 V5 h0 [(134,f5i N)] (v8 (c1O N) G7) Tryz.func74 rfl Tryz.call74 (e0P N) (fun x y=>(x.1,y.1.1,y.1.2.1,y.1.2.2.1)) (fun _ _=>rfl) N (fun _ _=>by kernel_rfl) rfl
def G1(_N:Nat)(a:UInt8):Option Bool:=br (decide (a>=97)) (some (decide (a<=122))) (some false)
abbrev e3z:=P4 [.v .u8] [] [.v .bool] [] (Bool) fun z=>((z,()),())
abbrev e01:AF:=e3z fun x _=>G1 N x.1
theorem d4N:P7 33 (e01 N):=
 V5 h0 [] G7 Tryz.func33 rfl Tryz.call33 (e01 N) (fun x _=>x.1) (fun _ _=>rfl) N (fun _ _=>by kernel_rfl) rfl
def G0(_N:Nat)(a:UInt8):Option Bool:=br (decide (a>=48)) (some (decide (a<=57))) (some false)
abbrev e3y:=P4 [.v .u8] [] [.v .bool] [] (Bool) fun z=>((z,()),())
abbrev d4J:AF:=e3y fun x _=>G0 N x.1
theorem d4M:P7 36 (d4J N):=
 V5 h0 [] G7 Tryz.func36 rfl Tryz.call36 (d4J N) (fun x _=>x.1) (fun _ _=>rfl) N (fun _ _=>by kernel_rfl) rfl
def a0m(_N:Nat):Option τ17:=some [[109,97,99,114,111],[102,111,114],[105,110],[105,102],[101,108,115,101],[117,115,101],[102,105,108,101,115],[99,104,111,111,115,101]]
abbrev c1U(f:SV []->BV []->Option τ17):AF:={ps:=[],bs:=[],rs:=[.row 0],cs:=[.row 9 .str false],R:=List c8,out:=fun z=>(((),()),(z,())),f:=f}
abbrev f5q:AF:=c1U fun _ _=>a0m N
theorem c1V:P7 179 (f5q N):=
 V5 h0 [] G7 Tryz.func179 rfl Tryz.call179 (f5q N) (fun _ y=>y.1) (fun _ _=>rfl) N (fun _ _=>by kernel_rfl) rfl
def e7A(_N:Nat)(b:List c8)(c:c8)(e:Int)(k0:Option Int)(self:ρ22)(a:Int):Option Int:=br (decide (a<e)) (f5 (l6 b a) fun g=>br (c==g) (some a) (self (IntKind.i64.wrap (a+1)))) (k0)
def f0v(N:Nat)(a:List c8)(b:c8)(c:Int)(k0:Option Int):Nat->Int->Option Int|0,_=>none|n+1,e=>e7A N a b c k0 (f0v N a b c k0 n) e
def C3(a:List c8)(b:c8):Option Int:=f0v N a b (a.length:Int) (some (-1:Int)) N 0
abbrev e1W:=P4 [.v τ11,V1] [] [V0] [] (Int) fun z=>((z,()),())
abbrev d9M:AF:=e1W fun x _=>C3 N x.1 x.2.1
abbrev f1H:SV [V0]->BV []->Int:=fun x _=>x.1
def d0r(_N:Nat):FuncId->Option Tmp->Option AF:=fun f _=>O5 [] f
theorem d0s:I8 (d0r N):=fun _ _ _ h=>o6 h G7
def e1V:Nat->Hint:=fun i=>
 match i with
 |0=>⟨[],[0,1,7,8],[],[],[],[]⟩
 |_=>o3
abbrev e4U:Env:=S9 e1V (d0r N) FF FF
noncomputable abbrev e8H:Code:=V7 (m9 Tryz.f222) [true,false,true,false,false]
abbrev e9E:=A8 (e4U N) Tryz.f222 (d9M N) f1H
abbrev e6h:List (Nat×Sl):=[(0,.v τ11),(1,V1),(7,V0),(8,V0)]
abbrev e6g:List (Nat×Sb):=[]
def e7B(a:List c8)(b:c8)(c e:Int):St:=⟨19,[(0,.v τ11 a),(1,.v .str b),(7,.v τ2 c),(8,.v τ2 e)],[]⟩
def e5y(_a:List c8)(_b:c8)(_c:Int):St:=⟨19,[],[]⟩
def f3D(a:List c8)(b:c8)(c e:Int)(k:Ex->St->Option Int):Option Int:=f0v N a b c (k (.exit 0) (e5y a b c)) N e
abbrev f0w:FV e6h->HV e6g->(Ex->St->Option Int)->Option Int:=fun x _ k=>f3D N x.1 x.2.1 x.2.2.1 x.2.2.2.1 k
def e7C:Nat->Code->St->(Ex->St->Option Int)->Option Int:=fun i c=>
 match i with
 |0=>(LPc 19 e6h e6g (f0w N) (fun st k=>iter (e1V 0) (V4 (e4U N) N c 0) N st k))
 |i=>fun st k=>iter (e1V i) (V4 (e4U N) N c i) N st k
theorem e9D(a:List c8)(b:c8)(c:Int)(KX:Nat->St->Option Int)(I:St->Option Int)(e:Int):
  a0b (e7C N) (e4U N) e8H 0 (e7B a b c e) (p6 (e1V 0) I KX (e9E N))=e7A N a b c (KX 0 (e5y a b c)) (fun e=>I (e7B a b c e)) e:=by kernel_rfl
theorem f1G:∀x y k,(∀st,k .ret st=(e9E N) st)->iter (e1V 0) (V4 (e4U N) N e8H 0) N ⟨19,Y7 e6h x,Y8 e6g y⟩ k=f0w N x y k:=fun x _ k hk=>
 j9 (S:=(Int)×Unit) (e1V 0) _ (a0b (e7C N) (e4U N) e8H 0) (e9E N) (k9 _ _ N _ e8H 0 (show LoopsOk (e7C N) (e4U N) N (e9E N) []from trivial)) (fun s=>e7B x.1 x.2.1 x.2.2.1 s.1) k hk
  (fun self s=>e7A N x.1 x.2.1 x.2.2.1 (k (.exit 0) (e5y x.1 x.2.1 x.2.2.1)) (fun a=>self (a,())) s.1) (fun n s=>f0v N x.1 x.2.1 x.2.2.1 (k (.exit 0) (e5y x.1 x.2.1 x.2.2.1)) n s.1) (fun _=>rfl) (fun _ _=>rfl)
  (fun I s=>e9D N x.1 x.2.1 x.2.2.1 (fun j=>k (.exit j)) I s.1) N (x.2.2.2.1,())
theorem f4R:F7 (e7C N) (e4U N) N (e9E N) 0 e8H:=fun st k hk=>p8 19 e6h e6g _ _ (e9E N) (f1G N) _ st k hk (rfl)
theorem f3E(x:SV [.v τ11,V1])(y:BV []):F5 (e4U N) Tryz.f222 (d9M N) f1H (e7C N) x y=C3 N x.1 x.2.1:=by kernel_rfl
theorem d0u:P7 222 (d9M N):=
 a1X (d0s N) Tryz.func222 rfl Tryz.call222 (d9M N) f1H (fun _ _=>rfl) N (e7C N) (show LoopsOk (e7C N) (e4U N) N (e9E N) [(0,e8H)]from⟨f4R N,trivial⟩) (f3E N)
def m8(a:List c8)(b:c8):Option Bool:=f5 (C3 N a b) fun c=>some (decide (c>=0))
abbrev e5d:=P4 [.v τ11,V1] [] [.v .bool] [] (Bool) fun z=>((z,()),())
abbrev z4g:AF:=e5d fun x _=>m8 N x.1 x.2.1
theorem b3e:P7 178 (z4g N):=
 V5 h0 [(222,d9M N)] (v8 (d0u N) G7) Tryz.func178 rfl Tryz.call178 (z4g N) (fun x _=>x.1) (fun _ _=>rfl) N (fun _ _=>by kernel_rfl) rfl
def b2e(b:c8)(c:Int)(k0:Option Bool)(self:ρ21)(a:Int):Option Bool:=br (decide (a<c)) (f5 (l6 b a) fun e=>f5 (G1 N e) fun g=>br (!g) (f5 (l6 b a) fun l=>f5 (G0 N l) fun m=>br (!m) (f5 (l6 b a) fun o=>br (o !=95) (some false) (self (IntKind.i64.wrap (a+1)))) (self (IntKind.i64.wrap (a+1)))) (self (IntKind.i64.wrap (a+1)))) (k0)
def a5w(N:Nat)(a:c8)(b:Int)(k0:Option Bool):Nat->Int->Option Bool|0,_=>none|n+1,c=>b2e N a b k0 (a5w N a b k0 n) c
def A9(a:c8):Option Bool:=br (decide ((a.length:Int)<1)) (some false) (br (decide ((a.length:Int)>40)) (some false) (f5 (l6 a 0) fun b=>f5 (G1 N b) fun c=>br (!c) (some false) (a5w N a (a.length:Int) (f5 (a0m N) fun e=>f5 (m8 N e a) fun g=>some (!g)) N 0)))
abbrev e3B:=P4 [V1] [] [.v .bool] [] (Bool) fun z=>((z,()),())
abbrev d4W:AF:=e3B fun x _=>A9 N x.1
abbrev d4X:SV [.v .bool]->BV []->Bool:=fun x _=>x.1
def d8S:FuncId->Option Tmp->Option AF:=fun f _=>O5 [(33,e01 N),(36,d4J N),(178,z4g N),(179,f5q N)] f
theorem d4V:I8 (d8S N):=fun _ _ _ h=>o6 h (v8 (d4N N) (v8 (d4M N) (v8 (b3e N) (v8 (c1V N) G7))))
def c8H:Nat->Hint:=fun i=>
 match i with
 |0=>⟨[],[0,19,20],[],[0],[],[]⟩
 |_=>o3
abbrev b66:Env:=S9 c8H (d8S N) FF FF
noncomputable abbrev b8x:Code:=V7 (m9 Tryz.f135) [true,true,false,true,false,false]
abbrev c4G:=A8 (b66 N) Tryz.f135 (d4W N) d4X
abbrev b0q:List (Nat×Sl):=[(0,V1),(19,V0),(20,V0)]
abbrev b0p:List (Nat×Sb):=[]
def b6n(a:c8)(b c:Int):St:=⟨46,[(0,.v .str a),(19,.v τ2 b),(20,.v τ2 c)],[]⟩
def a7c(a:c8)(_b:Int):St:=⟨46,[(0,.v .str a)],[]⟩
def d7T(a:c8)(b c:Int)(k:Ex->St->Option Bool):Option Bool:=a5w N a b (k (.exit 0) (a7c a b)) N c
abbrev c6y:FV b0q->HV b0p->(Ex->St->Option Bool)->Option Bool:=fun x _ k=>d7T N x.1 x.2.1 x.2.2.1 k
def b6o:Nat->Code->St->(Ex->St->Option Bool)->Option Bool:=fun i c=>
 match i with
 |0=>(LPc 46 b0q b0p (c6y N) (fun st k=>iter (c8H 0) (V4 (b66 N) N c 0) N st k))
 |i=>fun st k=>iter (c8H i) (V4 (b66 N) N c i) N st k
theorem c4F(a:c8)(b:Int)(KX:Nat->St->Option Bool)(I:St->Option Bool)(c:Int):
  a0b (b6o N) (b66 N) b8x 0 (b6n a b c) (p6 (c8H 0) I KX (c4G N))=b2e N a b (KX 0 (a7c a b)) (fun c=>I (b6n a b c)) c:=by kernel_rfl
theorem d4U:∀x y k,(∀st,k .ret st=(c4G N) st)->iter (c8H 0) (V4 (b66 N) N b8x 0) N ⟨46,Y7 b0q x,Y8 b0p y⟩ k=c6y N x y k:=fun x _ k hk=>
 j9 (S:=(Int)×Unit) (c8H 0) _ (a0b (b6o N) (b66 N) b8x 0) (c4G N) (k9 _ _ N _ b8x 0 (show LoopsOk (b6o N) (b66 N) N (c4G N) []from trivial)) (fun s=>b6n x.1 x.2.1 s.1) k hk
  (fun self s=>b2e N x.1 x.2.1 (k (.exit 0) (a7c x.1 x.2.1)) (fun a=>self (a,())) s.1) (fun n s=>a5w N x.1 x.2.1 (k (.exit 0) (a7c x.1 x.2.1)) n s.1) (fun _=>rfl) (fun _ _=>rfl)
  (fun I s=>c4F N x.1 x.2.1 (fun j=>k (.exit j)) I s.1) N (x.2.2.1,())
theorem e04:F7 (b6o N) (b66 N) N (c4G N) 0 b8x:=fun st k hk=>p8 46 b0q b0p _ _ (c4G N) (d4U N) _ st k hk (rfl)
theorem d7U(x:SV [V1])(y:BV []):F5 (b66 N) Tryz.f135 (d4W N) d4X (b6o N) x y=A9 N x.1:=by kernel_rfl
theorem d4Y:P7 135 (d4W N):=
 a1X (d4V N) Tryz.func135 rfl Tryz.call135 (d4W N) d4X (fun _ _=>rfl) N (b6o N) (show LoopsOk (b6o N) (b66 N) N (c4G N) [(0,b8x)]from⟨e04 N,trivial⟩) (d7U N)
def l9(a:List τ0)(b c:Int):Option (Except Int τ18):=br ((a.length:Int)==0) (l7 (o8 N a b c) fun e=>f5 (l6 e.1 0) fun m=>f5 (slc e.1 1 (e.1.length:Int)) fun o=>some (.ok (m.2.1,(o,e.2)))) (f5 (l6 a 0) fun p=>br (p.1 !=1) (l7 (o8 N a b c) fun g=>f5 (l6 g.1 0) fun q=>f5 (slc g.1 1 (g.1.length:Int)) fun r=>some (.ok (q.2.1,(r,g.2)))) (f5 (l6 a 0) fun t=>f5 (A9 N t.2.1) fun u=>br (!u) (l7 (o8 N a b c) fun l=>f5 (l6 l.1 0) fun v=>f5 (slc l.1 1 (l.1.length:Int)) fun w=>some (.ok (v.2.1,(w,l.2)))) (f5 (l6 a 0) fun B=>f5 (slc a 1 (a.length:Int)) fun C=>some (.ok (B.2.1,(C,(b,c)))))))
abbrev e29(f:SV [.box 0 0]->BV [.cells [V2,V0,V0]]->Option (Except Int τ18)):PF:={ps:=[.box 0 0],bs:=[.cells [V2,V0,V0]],rs:=[V1],cs:=[.cells [V2,V0,V0]],R:=c8×List τ0×Int×Int,out:=fun z=>((z.1,()),((z.2.1,z.2.2.1,z.2.2.2,()),())),f:=f}
abbrev d7A:PF:=e29 fun _ y=>l9 N y.1.1 y.1.2.1 y.1.2.2.1
def d3X:FuncId->Option Tmp->Option AF:=fun f _=>O5 [(135,d4W N)] f
theorem d3Y:I8 (d3X N):=fun _ _ _ h=>o6 h (v8 (d4Y N) G7)
def f0R:FuncId->Option Tmp->Option PF:=fun f _=>
 match f with
  |136=>some (d7u N)
  |_=>none
theorem f2q:∀f q F,f0R N f q=some F->SoundP Tryz.prog GW B7 c2n f F:=by
 intro f q F h
 unfold f0R at h
 split at h
 ·cases h;exact d3O N
 ·cases h
def c4v:Nat->Hint:=fun i=>
 match i with
 |_=>o3
abbrev b65:Env:=a0I c4v (d3X N) (f0R N) (fun _=>false) (fun _=>false)
theorem d30:SoundP Tryz.prog GW B7 c2n 75 (d7A N):=
 a0p (b65 N) (D6 c4v (d3X N) (f0R N) _ _ (d3Y N) (f2q N)) Tryz.func75 rfl Tryz.call75 (d7A N) (fun x y=>(x.1,y.1.1,y.1.2.1,y.1.2.2.1)) (fun _ _=>rfl) N (fun _ _=>by kernel_rfl) rfl
def g8(b:c8)(c:List τ0)(e g:Int):Option (Except Int τ9):=f5 (j6 N 4 b c e g) fun a=>br (!a.1) (l7 (o8 N a.2.1 a.2.2.1 a.2.2.2) fun l=>some (.ok l)) (some (.ok a.2))
abbrev e3a(f:SV [.box 0 0,V1]->BV [.cells [V2,V0,V0]]->Option (Except Int τ9)):PF:={ps:=[.box 0 0,V1],bs:=[.cells [V2,V0,V0]],rs:=[],cs:=[.cells [V2,V0,V0]],R:=List τ0×Int×Int,out:=fun z=>((),((z.1,z.2.1,z.2.2,()),())),f:=f}
abbrev e0O:PF:=e3a fun x y=>g8 N x.2.1 y.1.1 y.1.2.1 y.1.2.2.1
def f2r:FuncId->Option Tmp->Option AF:=fun f _=>O5 [(74,e0P N)] f
theorem f2s:I8 (f2r N):=fun _ _ _ h=>o6 h (v8 (d32 N) G7)
def f0S:FuncId->Option Tmp->Option PF:=fun f _=>
 match f with
  |136=>some (d7u N)
  |_=>none
theorem f2t:∀f q F,f0S N f q=some F->SoundP Tryz.prog GW B7 c2n f F:=by
 intro f q F h
 unfold f0S at h
 split at h
 ·cases h;exact d3O N
 ·cases h
def f5R:Nat->Hint:=fun i=>
 match i with
 |_=>o3
abbrev f6n:Env:=a0I f5R (f2r N) (f0S N) (fun _=>false) (fun _=>false)
theorem d31:SoundP Tryz.prog GW B7 c2n 76 (e0O N):=
 a0p (f6n N) (D6 f5R (f2r N) (f0S N) _ _ (f2s N) (f2t N)) Tryz.func76 rfl Tryz.call76 (e0O N) (fun _ y=>(y.1.1,y.1.2.1,y.1.2.2.1)) (fun _ _=>rfl) N (fun _ _=>by kernel_rfl) rfl
def x9(b:Int)(c e:c8)(g:Int)(l:c8)(m o:Int)(p:List τ0)(q r:Int):Option (Except Int τ13):=n7 (l7 (l9 N p q r) fun a=>br (decide ([a.1].length*(24*Ty.sz .str)<=140737488355328)) (some (.ok (b,(c,(e,(g,(l,(m,(o,(a.2.1,(a.2.2.1,(a.2.2.2,[a.1])))))))))))) none) (n7 (l7 (l9 N p q r) fun a=>br (decide ([a.1].length*(24*Ty.sz .str)<=140737488355328)) (some (.ok (b,(c,(e,(g,(l,(m,(o,(a.2.1,(a.2.2.1,(a.2.2.2,[a.1])))))))))))) none) (l7 (l9 N p q r) fun a=>j0 1 (br (decide ([a.1].length*(24*Ty.sz .str)<=140737488355328)) (some (.ok (b,(c,(e,(g,(l,(m,(o,(a.2.1,(a.2.2.1,(a.2.2.2,[a.1])))))))))))) none)))
abbrev e15(f:SV [.box 0 0,.box 1 0]->BV [.cells [V0,V1,V1,.nilS,.nilS,V0,V1,V0,.nilS,.nilS,.nilS,.nilS,V0],.cells [.box 2 0],.cells [V2,V0,V0]]->Option (Except Int τ13)):PF:={ps:=[.box 0 0,.box 1 0],bs:=[.cells [V0,V1,V1,.nilS,.nilS,V0,V1,V0,.nilS,.nilS,.nilS,.nilS,V0],.cells [.box 2 0],.cells [V2,V0,V0]],rs:=[],cs:=[.cells [V0,V1,V1,.row 3,.nilS,V0,V1,V0,.nilS,.nilS,.nilS,.nilS,V0],.cells [.box 2 0],.cells [V2,V0,V0],.row 9 .str false],R:=Int×c8×c8×Int×c8×Int×Int×List τ0×Int×Int×List c8,out:=fun z=>((),((z.1,z.2.1,z.2.2.1,(),(),z.2.2.2.1,z.2.2.2.2.1,z.2.2.2.2.2.1,(),(),(),(),z.2.2.2.2.2.2.1,()),((),()),(z.2.2.2.2.2.2.2.1,z.2.2.2.2.2.2.2.2.1,z.2.2.2.2.2.2.2.2.2.1,()),z.2.2.2.2.2.2.2.2.2.2,())),f:=f}
abbrev e1Z:PF:=e15 fun _ y=>x9 N y.1.1 y.1.2.1 y.1.2.2.1 y.1.2.2.2.2.2.1 y.1.2.2.2.2.2.2.1 y.1.2.2.2.2.2.2.2.1 y.1.2.2.2.2.2.2.2.2.2.2.2.2.1 y.2.2.1.1 y.2.2.1.2.1 y.2.2.1.2.2.1
def d0N(_N:Nat):FuncId->Option Tmp->Option AF:=fun f _=>O5 [] f
theorem d0O:I8 (d0N N):=fun _ _ _ h=>o6 h G7
def c5G:FuncId->Option Tmp->Option PF:=fun f _=>
 match f with
  |75=>some (d7A N)
  |_=>none
theorem d0P:∀f q F,c5G N f q=some F->SoundP Tryz.prog GW B7 c2n f F:=by
 intro f q F h
 unfold c5G at h
 split at h
 ·cases h;exact d30 N
 ·cases h
def e14:Nat->Hint:=fun i=>
 match i with
 |100000=>⟨[],[1,2],[],[],[],[]⟩
 |_=>o3
abbrev e4V:Env:=a0I e14 (d0N N) (c5G N) (fun _=>false) (fun _=>false)
theorem d0Q:SoundP Tryz.prog GW B7 c2n 78 (e1Z N):=
 a0p (e4V N) (D6 e14 (d0N N) (c5G N) _ _ (d0O N) (d0P N)) Tryz.func78 rfl Tryz.call78 (e1Z N) (fun _ y=>(y.1.1,y.1.2.1,y.1.2.2.1,y.1.2.2.2.2.2.1,y.1.2.2.2.2.2.2.1,y.1.2.2.2.2.2.2.2.1,y.1.2.2.2.2.2.2.2.2.2.2.2.2.1,y.2.2.1.1,y.2.2.1.2.1,y.2.2.1.2.2.1,y.2.2.2.1)) (fun _ _=>rfl) N (fun _ _=>by kernel_rfl) rfl
def y7(c:Int)(e g:c8)(l:Int)(m:c8)(o p:Int)(b:List c8)(q:List τ0)(r t:Int):Option (Except Int τ14):=n7 (l7 (l9 N q r t) fun a=>br (decide ((b.length + [a.1].length)*(24*Ty.sz .str)<=140737488355328)) (some (.ok (c,(e,(g,(l,(m,(o,(p,(b ++ [a.1],a.2)))))))))) none) (n7 (l7 (l9 N q r t) fun a=>br (decide ((b.length + [a.1].length)*(24*Ty.sz .str)<=140737488355328)) (some (.ok (c,(e,(g,(l,(m,(o,(p,(b ++ [a.1],a.2)))))))))) none) (l7 (l9 N q r t) fun a=>j0 1 (br (decide ((b.length + [a.1].length)*(24*Ty.sz .str)<=140737488355328)) (some (.ok (c,(e,(g,(l,(m,(o,(p,(b ++ [a.1],a.2)))))))))) none)))
abbrev e5t(f:SV [.box 0 0,.box 1 0]->BV [.cells [V0,V1,V1,.row 2,.nilS,V0,V1,V0,.nilS,.nilS,.nilS,.nilS,V0],.cells [.box 3 0],.row 9 .str false,.cells [V2,V0,V0]]->Option (Except Int τ14)):PF:={ps:=[.box 0 0,.box 1 0],bs:=[.cells [V0,V1,V1,.row 2,.nilS,V0,V1,V0,.nilS,.nilS,.nilS,.nilS,V0],.cells [.box 3 0],.row 9 .str false,.cells [V2,V0,V0]],rs:=[],cs:=[.cells [V0,V1,V1,.row 2,.nilS,V0,V1,V0,.nilS,.nilS,.nilS,.nilS,V0],.cells [.box 3 0],.row 9 .str false,.cells [V2,V0,V0]],R:=Int×c8×c8×Int×c8×Int×Int×List c8×List τ0×Int×Int,out:=fun z=>((),((z.1,z.2.1,z.2.2.1,(),(),z.2.2.2.1,z.2.2.2.2.1,z.2.2.2.2.2.1,(),(),(),(),z.2.2.2.2.2.2.1,()),((),()),z.2.2.2.2.2.2.2.1,(z.2.2.2.2.2.2.2.2.1,z.2.2.2.2.2.2.2.2.2.1,z.2.2.2.2.2.2.2.2.2.2,()),())),f:=f}
abbrev z7g:PF:=e5t fun _ y=>y7 N y.1.1 y.1.2.1 y.1.2.2.1 y.1.2.2.2.2.2.1 y.1.2.2.2.2.2.2.1 y.1.2.2.2.2.2.2.2.1 y.1.2.2.2.2.2.2.2.2.2.2.2.2.1 y.2.2.1 y.2.2.2.1.1 y.2.2.2.1.2.1 y.2.2.2.1.2.2.1
def f5m(_N:Nat):FuncId->Option Tmp->Option AF:=fun f _=>O5 [] f
theorem f4h:I8 (f5m N):=fun _ _ _ h=>o6 h G7
def f4i:FuncId->Option Tmp->Option PF:=fun f _=>
 match f with
  |75=>some (d7A N)
  |_=>none
theorem f4j:∀f q F,f4i N f q=some F->SoundP Tryz.prog GW B7 c2n f F:=by
 intro f q F h
 unfold f4i at h
 split at h
 ·cases h;exact d30 N
 ·cases h
def z7h:Nat->Hint:=fun i=>
 match i with
 |100000=>⟨[],[1,2],[],[],[],[]⟩
 |_=>o3
abbrev z7E:Env:=a0I z7h (f5m N) (f4i N) (fun _=>false) (fun _=>false)
theorem d7S:SoundP Tryz.prog GW B7 c2n 78 (z7g N):=
 a0p (z7E N) (D6 z7h (f5m N) (f4i N) _ _ (f4h N) (f4j N)) Tryz.func78 rfl Tryz.call78 (z7g N) (fun _ y=>(y.1.1,y.1.2.1,y.1.2.2.1,y.1.2.2.2.2.2.1,y.1.2.2.2.2.2.2.1,y.1.2.2.2.2.2.2.2.1,y.1.2.2.2.2.2.2.2.2.2.2.2.2.1,y.2.2.1,y.2.2.2.1.1,y.2.2.2.1.2.1,y.2.2.2.1.2.2.1)) (fun _ _=>rfl) N (fun _ _=>by kernel_rfl) rfl
end
end
noncomputable section
noncomputable section
variable(N:Nat)
def e71(k0 self:ρ5)(r:List τ0)(t u c:Int)(e g:c8)(l:Int)(m:c8)(o p:Int)(q:List c8):Option (Except Int τ3):=f5 (j6 N 4 [44] r t u) fun b=>br (b.1) (l7 (y7 N c e g l m o p q b.2.1 b.2.2.1 b.2.2.2) fun a=>self a.2.2.2.2.2.2.2.2.1 a.2.2.2.2.2.2.2.2.2.1 a.2.2.2.2.2.2.2.2.2.2 a.1 a.2.1 a.2.2.1 a.2.2.2.1 a.2.2.2.2.1 a.2.2.2.2.2.1 a.2.2.2.2.2.2.1 a.2.2.2.2.2.2.2.1) (k0 b.2.1 b.2.2.1 b.2.2.2 c e g l m o p q)
def e70(N:Nat)(k0:ρ5):Nat->τ4->Int->Int->Int->c8->c8->Int->c8->Int->Int->τ17->Option (Except Int τ3)|0,_,_,_,_,_,_,_,_,_,_,_=>none|n+1,a,b,c,e,g,l,m,o,p,q,r=>e71 N k0 (e70 N k0 n) a b c e g l m o p q r
def J9(e:c8)(U:Bool)(Q:List τ0)(R T g:Int)(l m:c8)(o:Int)(p:c8)(q r:Int):Option (Except Int τ3):=br (U) (f5 (j6 N 4 e Q R T) fun c=>br (c.1) (some (.ok (c.2.1,(c.2.2.1,(c.2.2.2,(g,(l,(m,([],(o,(p,(q,r)))))))))))) (l7 (x9 N g l m o p q r c.2.1 c.2.2.1 c.2.2.2) fun a=>e70 N (fun t u v w B C D E H J K=>l7 (g8 N e t u v) fun L=>some (.ok (L.1,(L.2.1,(L.2.2,(w,(B,(C,(K,(D,(E,(H,J)))))))))))) N a.2.2.2.2.2.2.2.1 a.2.2.2.2.2.2.2.2.1 a.2.2.2.2.2.2.2.2.2.1 a.1 a.2.1 a.2.2.1 a.2.2.2.1 a.2.2.2.2.1 a.2.2.2.2.2.1 a.2.2.2.2.2.2.1 a.2.2.2.2.2.2.2.2.2.2)) (l7 (x9 N g l m o p q r Q R T) fun b=>e70 N (fun t u v w B C D E H J K=>l7 (g8 N e t u v) fun O=>some (.ok (O.1,(O.2.1,(O.2.2,(w,(B,(C,(K,(D,(E,(H,J)))))))))))) N b.2.2.2.2.2.2.2.1 b.2.2.2.2.2.2.2.2.1 b.2.2.2.2.2.2.2.2.2.1 b.1 b.2.1 b.2.2.1 b.2.2.2.1 b.2.2.2.2.1 b.2.2.2.2.2.1 b.2.2.2.2.2.2.1 b.2.2.2.2.2.2.2.2.2.2)
abbrev e3g(f:SV [.box 0 0,V1,.v .bool,.fnc 78 [1,2]]->BV [.cells [V2,V0,V0],.cells [V0,V1,V1,.nilS,.nilS,V0,V1,V0,.nilS,.nilS,.nilS,.nilS,V0],.cells [.box 0 0]]->Option (Except Int τ3)):PF:={ps:=[.box 0 0,V1,.v .bool,.fnc 78 [1,2]],bs:=[.cells [V2,V0,V0],.cells [V0,V1,V1,.nilS,.nilS,V0,V1,V0,.nilS,.nilS,.nilS,.nilS,V0],.cells [.box 0 0]],rs:=[],cs:=[.cells [V2,V0,V0],.cells [V0,V1,V1,.v τ11,.nilS,V0,V1,V0,.nilS,.nilS,.nilS,.nilS,V0],.cells [.box 0 0]],R:=List τ0×Int×Int×Int×c8×c8×List c8×Int×c8×Int×Int,out:=fun z=>((),((z.1,z.2.1,z.2.2.1,()),(z.2.2.2.1,z.2.2.2.2.1,z.2.2.2.2.2.1,z.2.2.2.2.2.2.1,(),z.2.2.2.2.2.2.2.1,z.2.2.2.2.2.2.2.2.1,z.2.2.2.2.2.2.2.2.2.1,(),(),(),(),z.2.2.2.2.2.2.2.2.2.2,()),((),()),())),f:=f}
abbrev c1N:PF:=e3g fun x y=>J9 N x.2.1 x.2.2.1 y.1.1 y.1.2.1 y.1.2.2.1 y.2.1.1 y.2.1.2.1 y.2.1.2.2.1 y.2.1.2.2.2.2.2.1 y.2.1.2.2.2.2.2.2.1 y.2.1.2.2.2.2.2.2.2.1 y.2.1.2.2.2.2.2.2.2.2.2.2.2.2.1
abbrev f2F:SV []->BV [.cells [V2,V0,V0],.cells [V0,V1,V1,.v τ11,.nilS,V0,V1,V0,.nilS,.nilS,.nilS,.nilS,V0],.cells [.box 0 0]]->τ3:=fun _ y=>(y.1.1,y.1.2.1,y.1.2.2.1,y.2.1.1,y.2.1.2.1,y.2.1.2.2.1,y.2.1.2.2.2.1,y.2.1.2.2.2.2.2.1,y.2.1.2.2.2.2.2.2.1,y.2.1.2.2.2.2.2.2.2.1,y.2.1.2.2.2.2.2.2.2.2.2.2.2.2.1)
abbrev f4F:SV []->BV [.cells [V2,V0,V0],.cells [V0,V1,V1,.v τ11,.nilS,V0,V1,V0,.nilS,.nilS,.nilS,.nilS,V0],.cells [.box 0 0]]->Except Int τ3:=fun x y=> .ok (f2F x y)
def d38:FuncId->Option Tmp->Option AF:=fun f _=>O5 [(74,e0P N)] f
theorem d39:I8 (d38 N):=fun _ _ _ h=>o6 h (v8 (d32 N) G7)
def c6n:FuncId->Option Tmp->Option PF:=fun f q=>
 match f with
  |76=>some (e0O N)
  |78=>match q with|some 15=>some (e1Z N)|some 19=>some (z7g N)|_=>none
  |_=>none
theorem d4a:∀f q F,c6n N f q=some F->SoundP Tryz.prog GW B7 c2n f F:=by
 intro f q F h
 unfold c6n at h
 split at h
 ·cases h;exact d31 N
 ·split at h
  ·cases h;exact d0Q N
  ·cases h;exact d7S N
  ·cases h
 ·cases h
def e3f:Nat->Hint:=fun i=>
 match i with
 |0=>⟨[],[0,1,3],[0,1,2,101500],[0,1],[0,1,2,101500],[]⟩
 |_=>o3
abbrev e5j:Env:=a0I e3f (d38 N) (c6n N) (fun _=>false) (fun _=>false)
abbrev e9W:=A8 (e5j N) Tryz.f77 (PF.tf (c1N N)) f4F
noncomputable abbrev d8l:Code:=V7 (m9 Tryz.f77) [true,true,false,false,false]
abbrev e6C:List (Nat×Sl):=[(0,.box 0 0),(1,V1),(3,.fnc 78 [1,2])]
abbrev e6B:List (Nat×Sb):=[(0,.cells [V2,V0,V0]),(1,.cells [V0,V1,V1,.row 101500,.nilS,V0,V1,V0,.nilS,.nilS,.nilS,.nilS,V0]),(2,.cells [.box 0 0]),(101500,.row 9 .str false)]
def e72(a:c8)(b:List τ0)(c e g:Int)(l m:c8)(o:Int)(p:c8)(q r:Int)(t:List c8):St:=⟨23,[(0,.box 0 0),(1,.v .str a),(3,.fnc 78 [1,2])],[(0,.cells [.v (.sl τ1) b,.v τ2 c,.v τ2 e]),(1,.cells [.v τ2 g,.v .str l,.v .str m,.row 101500,.nilS,.v τ2 o,.v .str p,.v τ2 q,.nilS,.nilS,.nilS,.nilS,.v τ2 r]),(2,.cells [.box 0 0]),(101500,.row 9 .str false t)]⟩
def e5I(a:c8)(b:List τ0)(c e g:Int)(l m:c8)(o:Int)(p:c8)(q r:Int)(t:List c8):St:=⟨23,[(0,.box 0 0),(1,.v .str a)],[(0,.cells [.v (.sl τ1) b,.v τ2 c,.v τ2 e]),(1,.cells [.v τ2 g,.v .str l,.v .str m,.row 101500,.nilS,.v τ2 o,.v .str p,.v τ2 q,.nilS,.nilS,.nilS,.nilS,.v τ2 r]),(2,.cells [.box 0 0]),(101500,.row 9 .str false t)]⟩
def f3W(a:c8)(b:List τ0)(c e g:Int)(l m:c8)(o:Int)(p:c8)(q r:Int)(t:List c8)(k:Ex->St->Option (Except Int τ3)):Option (Except Int τ3):=e70 N (fun u v w B C D E H J K L=>k (.exit 0) (e5I a u v w B C D E H J K L)) N b c e g l m o p q r t
abbrev f0V:FV e6C->HV e6B->(Ex->St->Option (Except Int τ3))->Option (Except Int τ3):=fun x y k=>f3W N x.2.1 y.1.1 y.1.2.1 y.1.2.2.1 y.2.1.1 y.2.1.2.1 y.2.1.2.2.1 y.2.1.2.2.2.2.2.1 y.2.1.2.2.2.2.2.2.1 y.2.1.2.2.2.2.2.2.2.1 y.2.1.2.2.2.2.2.2.2.2.2.2.2.2.1 y.2.2.2.1 k
def e73:Nat->Code->St->(Ex->St->Option (Except Int τ3))->Option (Except Int τ3):=fun i c=>
 match i with
 |0=>(LPc 23 e6C e6B (f0V N) (fun st k=>iter (e3f 0) (V4 (e5j N) N c 0) N st k))
 |i=>fun st k=>iter (e3f i) (V4 (e5j N) N c i) N st k
theorem e9V(t:c8)(KX:Nat->St->Option (Except Int τ3))(I:St->Option (Except Int τ3))(a:List τ0)(b c e:Int)(g l:c8)(m:Int)(o:c8)(p q:Int)(r:List c8):
  a0b (e73 N) (e5j N) d8l 0 (e72 t a b c e g l m o p q r) (p6 (e3f 0) I KX (e9W N))=e71 N (fun u v w B C D E H J K L=>KX 0 (e5I t u v w B C D E H J K L)) (fun a b c e g l m o p q r=>I (e72 t a b c e g l m o p q r)) a b c e g l m o p q r:=by kernel_rfl
theorem f2E:∀x y k,(∀st,k .ret st=(e9W N) st)->iter (e3f 0) (V4 (e5j N) N d8l 0) N ⟨23,Y7 e6C x,Y8 e6B y⟩ k=f0V N x y k:=fun x y k hk=>
 j9 (S:=τ4×(Int)×(Int)×(Int)×(c8)×(c8)×(Int)×(c8)×(Int)×(Int)×τ17×Unit) (e3f 0) _ (a0b (e73 N) (e5j N) d8l 0) (e9W N) (k9 _ _ N _ d8l 0 (show LoopsOk (e73 N) (e5j N) N (e9W N) []from trivial)) (fun s=>e72 x.2.1 s.1 s.2.1 s.2.2.1 s.2.2.2.1 s.2.2.2.2.1 s.2.2.2.2.2.1 s.2.2.2.2.2.2.1 s.2.2.2.2.2.2.2.1 s.2.2.2.2.2.2.2.2.1 s.2.2.2.2.2.2.2.2.2.1 s.2.2.2.2.2.2.2.2.2.2.1) k hk
  (fun self s=>e71 N (fun a b c e g l m o p q r=>k (.exit 0) (e5I x.2.1 a b c e g l m o p q r)) (fun t u v w B C D E H J K=>self (t,u,v,w,B,C,D,E,H,J,K,())) s.1 s.2.1 s.2.2.1 s.2.2.2.1 s.2.2.2.2.1 s.2.2.2.2.2.1 s.2.2.2.2.2.2.1 s.2.2.2.2.2.2.2.1 s.2.2.2.2.2.2.2.2.1 s.2.2.2.2.2.2.2.2.2.1 s.2.2.2.2.2.2.2.2.2.2.1) (fun n s=>e70 N (fun a b c e g l m o p q r=>k (.exit 0) (e5I x.2.1 a b c e g l m o p q r)) n s.1 s.2.1 s.2.2.1 s.2.2.2.1 s.2.2.2.2.1 s.2.2.2.2.2.1 s.2.2.2.2.2.2.1 s.2.2.2.2.2.2.2.1 s.2.2.2.2.2.2.2.2.1 s.2.2.2.2.2.2.2.2.2.1 s.2.2.2.2.2.2.2.2.2.2.1) (fun _=>rfl) (fun _ _=>rfl)
  (fun I s=>e9V N x.2.1 (fun j=>k (.exit j)) I s.1 s.2.1 s.2.2.1 s.2.2.2.1 s.2.2.2.2.1 s.2.2.2.2.2.1 s.2.2.2.2.2.2.1 s.2.2.2.2.2.2.2.1 s.2.2.2.2.2.2.2.2.1 s.2.2.2.2.2.2.2.2.2.1 s.2.2.2.2.2.2.2.2.2.2.1) N (y.1.1,y.1.2.1,y.1.2.2.1,y.2.1.1,y.2.1.2.1,y.2.1.2.2.1,y.2.1.2.2.2.2.2.1,y.2.1.2.2.2.2.2.2.1,y.2.1.2.2.2.2.2.2.2.1,y.2.1.2.2.2.2.2.2.2.2.2.2.2.2.1,y.2.2.2.1,())
theorem f5c:F7 (e73 N) (e5j N) N (e9W N) 0 d8l:=fun st k hk=>p8 23 e6C e6B _ _ (e9W N) (f2E N) _ st k hk (rfl)
theorem f3X(x:SV [.box 0 0,V1,.v .bool,.fnc 78 [1,2]])(y:BV [.cells [V2,V0,V0],.cells [V0,V1,V1,.nilS,.nilS,V0,V1,V0,.nilS,.nilS,.nilS,.nilS,V0],.cells [.box 0 0]]):F5 (e5j N) Tryz.f77 (PF.tf (c1N N)) f4F (e73 N) x y=J9 N x.2.1 x.2.2.1 y.1.1 y.1.2.1 y.1.2.2.1 y.2.1.1 y.2.1.2.1 y.2.1.2.2.1 y.2.1.2.2.2.2.2.1 y.2.1.2.2.2.2.2.2.1 y.2.1.2.2.2.2.2.2.2.1 y.2.1.2.2.2.2.2.2.2.2.2.2.2.2.1:=by kernel_rfl
theorem a25:SoundP Tryz.prog GW B7 c2n 77 (c1N N):=
 b4k (e5j N) (D6 e3f (d38 N) (c6n N) _ _ (d39 N) (d4a N)) Tryz.func77 rfl Tryz.call77 (c1N N) f2F (fun _ _=>rfl) N (e73 N) (show LoopsOk (e73 N) (e5j N) N (e9W N) [(0,d8l)]from⟨f5c N,trivial⟩) (f3X N)
abbrev a9v(f:SV [.box 0 0,V0]->BV [.cells [V2,V0,V0]]->Option (Except Int (GStmt×List τ0×Int×Int))):PF:={ps:=[.box 0 0,V0],bs:=[.cells [V2,V0,V0]],rs:=[.v τ16],cs:=[.cells [V2,V0,V0]],R:=GStmt×List τ0×Int×Int,out:=fun z=>((z.1,()),((z.2.1,z.2.2.1,z.2.2.2,()),())),f:=f}
end
end
end Go.Proofs.YtolpmfhiegpohaaGreatDoor
