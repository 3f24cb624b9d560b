/- % -/
import Derived.Test.YtckdohagilcloaaGreatDoorQWeF29
import Derived.Test.YtckdohagilcloaaGreatDoorQShelfS
import Derived.ProofKit
import Derived.OpenShut
import Derived.ShutString
import Derived.DataReads
import Derived.ChangeShapes
import Derived.WideShapes
import Derived.Test.YtckdohagilcloaaGreatDoorRows
namespace Go.Proofs.YtckdohagilcloaaGreatDoor
set_option maxRecDepth 100000
set_option linter.unusedVariables false
set_option linter.unusedSimpArgs false
open Go Go.RowKit
noncomputable section
noncomputable section
def c55(_N:Nat)(c9:List τ25)(c10:Int)(k0:Int->Option τ25)(self:Int->Int->Option τ25)(s3:Int)(s11:Int):Option τ25:=br (decide (s11<c10)) (k8 (n8 c9 s11) fun t13=>br (decide ((IntKind.i64.wrap (s3+(t13.length:Int)))<(0:Int))) none (self (IntKind.i64.wrap (s3+(t13.length:Int))) (IntKind.i64.wrap (s11+(1:Int))))) (k0 s3)
def b74(N:Nat)(c9:List τ25)(c10:Int)(k0:Int->Option τ25):Nat->Int->Int->Option τ25|0,_,_=>none|n+1,s3,s11=>c55 N c9 c10 k0 (b74 N c9 c10 k0 n) s3 s11
def c56(_N:Nat)(x0:List τ25)(c26:Int)(k2:τ25->Option τ25)(self:Int->τ25->Option τ25)(s27:Int)(w102400:List τ9):Option τ25:=br (decide (s27<c26)) (k8 (n8 x0 s27) fun t29=>br (Zf (w102400.length+t29.length) τ12) (self (IntKind.i64.wrap (s27+(1:Int))) (w102400++t29)) none) (k2 w102400)
def b76(N:Nat)(x0:List τ25)(c26:Int)(k2:τ25->Option τ25):Nat->Int->τ25->Option τ25|0,_,_=>none|n+1,s27,w102400=>c56 N x0 c26 k2 (b76 N x0 c26 k2 n) s27 w102400
def Y2(N:Nat)(x0:List τ25):Option τ25:=b74 N x0 (x0.length:Int) (fun o0_3=>k8 (W8 o0_3) fun t24=>b76 N x0 (x0.length:Int) (fun o1_w102400=>some o1_w102400) N (0:Int) t24) N (0:Int) (0:Int)
abbrev f2G(f:SV [.v (.sl τ31)]->BV []->Option τ25):AF:={ps:=[.v (.sl τ31)],bs:=[],rs:=[.row 0],cs:=[.row 56 τ12 false],R:=List τ9,out:=fun z=>(((),()),z,()),f:=f}
abbrev e2j(N:Nat):AF:=f2G fun x _=>Y2 N x.1
abbrev e4G:SV [.row 0]->BV [.row 56 τ12 false]->τ25:=fun _ y=>y.1
def e4F(_N:Nat):FuncId->Option Tmp->Option AF:=fun f _=>P0 [(91,d5d fun x _=>W8 x.2.1)] f
theorem d7L(N:Nat):H5 (e4F N):=fun _ _ _ h=>r9 h (u4 (d0n) F1)
def f6N:Nat->Hint:=fun i=>
 match i with
 |0=>⟨[],[0,3,9,10,11],[],[0,3],[],[]⟩
 |2=>⟨[],[6,25,26,27],[102400],[6],[102400],[]⟩
 |_=>o5
abbrev d2A(N:Nat):Env:=M5 f6N (e4F N) FF FF
noncomputable abbrev f2F:Code:=P9 (m8 Tryz.f44) [true,true,false,true,false,false]
noncomputable abbrev f2E:Code:=P9 (m8 Tryz.f44) [true,true,true,true,false,true,false,false]
abbrev f2D(N:Nat):=B4 (d2A N) Tryz.f44 (e2j N) e4G
abbrev c3w:List (Nat×Sl):=[(0,.v (.sl τ31)),(3,.v τ3),(9,.v (.sl τ31)),(10,.v τ3),(11,.v τ3)]
abbrev d7I:List (Nat×Sb):=[]
def b75(x:FV c3w):St:=⟨36,[(0,.v (.sl τ31) x.1),(3,.v τ3 x.2.1)],[]⟩
def c8b(N:Nat):T9 (τ25) c3w d7I:=fun K n x y=>b74 N x.2.2.1 x.2.2.2.1 (fun o0_3=>K 0 (b75 (x.1,o0_3,x.2.2))) n x.2.1 x.2.2.2.2.1
abbrev d7J:List (Nat×Sl):=[(6,.row 102400),(25,.v (.sl τ31)),(26,.v τ3),(27,.v τ3)]
abbrev b5i:List (Nat×Sb):=[(102400,.row 56 τ12 false)]
def b77(y:HV b5i):St:=⟨36,[(6,.row 102400)],unH b5i y⟩
def c8c(N:Nat):T9 (τ25) d7J b5i:=fun K n x y=>b76 N x.2.1 x.2.2.1 (fun o1_w102400=>K 2 (b77 (o1_w102400,y.2))) n x.2.2.2.1 y.1
def d7K(N:Nat):Nat->Code->St->(Ex->St->Option τ25)->Option τ25:=fun i c=>
 match i with
 |0=>U4 (d2A N) N 36 (c8b N) 0 c
 |2=>U4 (d2A N) N 36 (c8c N) 2 c
 |i=>LpD (d2A N) N i c
theorem e8R(N:Nat):B2 (d7K N) (d2A N) N (f2D N) 2 f2E:=
 o0 (c8c N) (fun K f x y=>c56 N x.2.1 x.2.2.1 (fun o1_w102400=>K 2 (b77 (o1_w102400,y.2))) (fun s27 w102400=>f (x.1,x.2.1,x.2.2.1,s27,x.2.2.2.2) (w102400,y.2)) x.2.2.2.1 y.1)
theorem e8Q(N:Nat):B2 (d7K N) (d2A N) N (f2D N) 0 f2F:=
 o0 (c8b N) (fun K f x y=>c55 N x.2.2.1 x.2.2.2.1 (fun o0_3=>K 0 (b75 (x.1,o0_3,x.2.2))) (fun s3 s11=>f (x.1,s3,x.2.2.1,x.2.2.2.1,s11,x.2.2.2.2.2) y) x.2.1 x.2.2.2.2.1)
theorem d7M(N:Nat):I6 44 (e2j N):=
 X0 (d7L N) Tryz.func44 Tryz.call44 (e2j N) e4G N (d7K N) (P5 (e8Q N) (P5 (e8R N) U6))
def b2C(_N:Nat)(x1:d3)(c9:List τ9)(c10:Int)(k0:Option (GValue×Bool))(self:Int->Option (GValue×Bool))(s11:Int):Option (GValue×Bool):=br (decide (s11<c10)) (k8 (n8 c9 s11) fun t13=>br (t13.1==x1) (some (GValue.mk t13.2.kind t13.2.text t13.2.number t13.2.list t13.2.cases,true)) (self (IntKind.i64.wrap (s11+(1:Int))))) (k0)
def c52(N:Nat)(x1:d3)(c9:List τ9)(c10:Int)(k0:Option (GValue×Bool)):Nat->Int->Option (GValue×Bool)|0,_=>none|n+1,s11=>b2C N x1 c9 c10 k0 (c52 N x1 c9 c10 k0 n) s11
def a17(N:Nat)(x0:d3×d3×List τ9)(x1:d3):Option (GValue×Bool):=c52 N x1 x0.2.2 (x0.2.2.length:Int) (some (GValue.mk (0:Int) ([]:d3) (0:Int) ([]:List d3) ([]:List τ9),false)) N (0:Int)
abbrev e8D:=E3 [.v τ6,.v .str] [] [.v τ18,.v .bool] [] (GValue×Bool) fun z=>((z.1,z.2,()),())
abbrev c75(N:Nat):AF:=e8D fun x _=>a17 N x.1 x.2.1
abbrev d7i:SV [.v τ18,.v .bool]->BV []->(GValue×Bool):=fun x _=>(x.1,x.2.1)
def d7h(_N:Nat):FuncId->Option Tmp->Option AF:=fun f _=>P0 [] f
theorem d2v(N:Nat):H5 (d7h N):=fun _ _ _ h=>r9 h F1
def f2l:Nat->Hint:=fun i=>
 match i with
 |0=>⟨[],[1,4,9,10,11],[1004],[4],[1004],[]⟩
 |_=>o5
abbrev c74(N:Nat):Env:=M5 f2l (d7h N) FF FF
noncomputable abbrev e8C:Code:=P9 (m8 Tryz.f47) [true,false,true,false,false]
abbrev f2k(N:Nat):=B4 (c74 N) Tryz.f47 (c75 N) d7i
abbrev d2u:List (Nat×Sl):=[(1,.v .str),(4,.box 1004 0),(9,.v τ31),(10,.v τ3),(11,.v τ3)]
abbrev b1j:List (Nat×Sb):=[(1004,.cells [.v τ3,.v .str,.v τ3,.nilS,.nilS])]
def b5g(y:HV b1j):St:=⟨23,[(4,.box 1004 0)],unH b1j y⟩
def c3s(N:Nat):T9 ((GValue×Bool)) d2u b1j:=fun K n x y=>c52 N x.1 x.2.2.1 x.2.2.2.1 (K 0 (b5g y)) n x.2.2.2.2.1
def d7g(N:Nat):Nat->Code->St->(Ex->St->Option (GValue×Bool))->Option (GValue×Bool):=fun i c=>
 match i with
 |0=>U4 (c74 N) N 23 (c3s N) 0 c
 |i=>LpD (c74 N) N i c
theorem e2f(N:Nat):B2 (d7g N) (c74 N) N (f2k N) 0 e8C:=
 o0 (c3s N) (fun K f x y=>b2C N x.1 x.2.2.1 x.2.2.2.1 (K 0 (b5g y)) (fun s11=>f (x.1,x.2.1,x.2.2.1,x.2.2.2.1,s11,x.2.2.2.2.2) y) x.2.2.2.2.1)
theorem d2w(N:Nat):I6 47 (c75 N):=
 X0 (d2v N) Tryz.func47 Tryz.call47 (c75 N) d7i N (d7g N) (P5 (e2f N) U6)
def b1f(_N:Nat)(x0:List d3)(x1:List d3)(c12:Int)(k0:Option Bool)(self:ρ33)(s13:Int):Option Bool:=br (decide (s13<c12)) (k8 (n8 x0 s13) fun t18=>k8 (n8 x1 s13) fun t22=>br (!(t18==t22)) (some false) (self (IntKind.i64.wrap (s13+(1:Int))))) (k0)
def c7P(N:Nat)(x0:List d3)(x1:List d3)(c12:Int)(k0:Option Bool):Nat->Int->Option Bool|0,_=>none|n+1,s13=>b1f N x0 x1 c12 k0 (c7P N x0 x1 c12 k0 n) s13
def K0(N:Nat)(x0:List d3)(x1:List d3):Option Bool:=br ((x0.length:Int) !=(x1.length:Int)) (some false) (c7P N x0 x1 (x0.length:Int) (some true) N (0:Int))
abbrev f1W:=E3 [.v τ21,.v τ21] [] [.v .bool] [] (Bool) fun z=>((z,()),())
abbrev e16(N:Nat):AF:=f1W fun x _=>K0 N x.1 x.2.1
abbrev e4p:SV [.v .bool]->BV []->Bool:=fun x _=>x.1
def e4o(_N:Nat):FuncId->Option Tmp->Option AF:=fun f _=>P0 [] f
theorem d6M(N:Nat):H5 (e4o N):=fun _ _ _ h=>r9 h F1
def f6A:Nat->Hint:=fun i=>
 match i with
 |0=>⟨[],[0,1,12,13],[],[],[],[]⟩
 |_=>o5
abbrev e15(N:Nat):Env:=M5 f6A (e4o N) FF FF
noncomputable abbrev f1V:Code:=P9 (m8 Tryz.f93) [true,true,false,true,false,false]
abbrev f6z(N:Nat):=B4 (e15 N) Tryz.f93 (e16 N) e4p
abbrev d6L:List (Nat×Sl):=[(0,.v τ21),(1,.v τ21),(12,.v τ3),(13,.v τ3)]
abbrev d6K:List (Nat×Sb):=[]
def c7Q(N:Nat):T9 (Bool) d6L d6K:=fun K n x y=>c7P N x.1 x.2.1 x.2.2.1 (K 0 ⟨26,[],[]⟩) n x.2.2.2.1
def e4n(N:Nat):Nat->Code->St->(Ex->St->Option Bool)->Option Bool:=fun i c=>
 match i with
 |0=>U4 (e15 N) N 26 (c7Q N) 0 c
 |i=>LpD (e15 N) N i c
theorem e8e(N:Nat):B2 (e4n N) (e15 N) N (f6z N) 0 f1V:=
 o0 (c7Q N) (fun K f x y=>b1f N x.1 x.2.1 x.2.2.1 (K 0 ⟨26,[],[]⟩) (fun s13=>f (x.1,x.2.1,x.2.2.1,s13,x.2.2.2.2) y) x.2.2.2.1)
theorem d6N(N:Nat):I6 93 (e16 N):=
 X0 (d6M N) Tryz.func93 Tryz.call93 (e16 N) e4p N (e4n N) (P5 (e8e N) U6)
abbrev b4u:=E3 [.v τ18,.v τ18] [] [.v .bool] [] (Bool) fun z=>((z,()),())
def a4f(_N:Nat)(l7:ρ21)(c44:Int)(κ2_4:List τ9)(κ3_4:List τ9)(k0:Option Bool)(self:ρ33)(s45:Int):Option Bool:=br (decide (s45<c44)) (k8 (n8 κ2_4 s45) fun t51=>k8 (n8 κ3_4 s45) fun t57=>br (!(t51.1==t57.1)) (some false) (k8 (n8 κ2_4 s45) fun t65=>k8 (n8 κ3_4 s45) fun t71=>k8 (l7 t65.2 t71.2) fun t74=>br (!t74) (some false) (self (IntKind.i64.wrap (s45+(1:Int)))))) (k0)
def b0K(N:Nat)(l7:ρ21)(c44:Int)(κ2_4:List τ9)(κ3_4:List τ9)(k0:Option Bool):Nat->Int->Option Bool|0,_=>none|n+1,s45=>a4f N l7 c44 κ2_4 κ3_4 k0 (b0K N l7 c44 κ2_4 κ3_4 k0 n) s45
def R0(N:Nat)(l7:ρ21)(x0:GValue)(x1:GValue):Option Bool:=br (x0.kind !=x1.kind) (some false) (br (!(x0.text==x1.text)) (some false) (br (x0.number !=x1.number) (some false) (k8 (K0 N x0.list x1.list) fun t30=>br (!t30) (some false) (br ((x0.cases.length:Int) !=(x1.cases.length:Int)) (some false) (b0K N l7 (x0.cases.length:Int) x0.cases x1.cases (some true) N (0:Int))))))
abbrev e6M:=E3 [.v τ18,.v τ18] [] [.v .bool] [] (Bool) fun z=>((z,()),())
abbrev d48(N:Nat)(l7:ρ21):AF:=e6M fun x _=>R0 N l7 x.1 x.2.1
abbrev d49:SV [.v .bool]->BV []->Bool:=fun x _=>x.1
def c5p(N:Nat)(l7:ρ21):FuncId->Option Tmp->Option AF:=fun f _=>P0 [(48,b4u fun x _=>l7 x.1 x.2.1),(93,e16 N)] f
theorem d0e(N:Nat)(l7:ρ21)(a13:Sound Tryz.prog GW x6 48 (b4u fun x y=>l7 x.1 x.2.1)):∀f q F,c5p N l7 f q=some F->Sound Tryz.prog GW x6 f F:=fun _ _ _ h=>r9 h (u4 (a13) (u4 (d6N N) F1))
def e3P:Nat->Hint:=fun i=>
 match i with
 |0=>⟨[],[2,3,44,45],[1002,1003],[],[],[]⟩
 |_=>o5
abbrev c68(N:Nat)(l7:ρ21):Env:=M5 e3P (c5p N l7) (fun _=>false) (fun _=>false)
abbrev f1h(N:Nat)(l7:ρ21):=B4 (c68 N l7) Tryz.f48 (d48 N l7) d49
noncomputable abbrev e6L:Code:=P9 (m8 Tryz.f48) [true,true,false,true,false,false]
abbrev d0d:List (Nat×Sl):=[(2,.box 1002 0),(3,.box 1003 0),(44,.v τ3),(45,.v τ3)]
abbrev d0c:List (Nat×Sb):=[(1002,.cells [.v τ3,.v .str,.v τ3,.v τ21,.v τ31]),(1003,.cells [.v τ3,.v .str,.v τ3,.v τ21,.v τ31])]
def c2m(N:Nat)(l7:ρ21):T9 (Bool) d0d d0c:=fun K n x y=>b0K N l7 x.2.2.1 y.1.2.2.2.2.1 y.2.1.2.2.2.2.1 (K 0 ⟨78,[],[]⟩) n x.2.2.2.1
def d47(N:Nat)(l7:ρ21):Nat->Code->St->(Ex->St->Option Bool)->Option Bool:=fun i c=>
 match i with
 |0=>U4 (c68 N l7) N 78 (c2m N l7) 0 c
 |i=>LpD (c68 N l7) N i c
theorem e1t(N:Nat)(l7:ρ21):B2 (d47 N l7) (c68 N l7) N (f1h N l7) 0 e6L:=
 o0 (c2m N l7) (fun K f x y=>a4f N l7 x.2.2.1 y.1.2.2.2.2.1 y.2.1.2.2.2.2.1 (K 0 ⟨78,[],[]⟩) (fun s45=>f (x.1,x.2.1,x.2.2.1,s45,x.2.2.2.2) y) x.2.2.2.1)
theorem d0f(N:Nat)(l7:ρ21)(a13:Sound Tryz.prog GW x6 48 (b4u fun x y=>l7 x.1 x.2.1)):Sound Tryz.prog GW x6 48 (d48 N l7):=
 a0l (t6 e3P (c5p N l7) _ _ (d0e N l7 a13)) Tryz.func48 Tryz.call48 (d48 N l7) d49 N (d47 N l7) (P5 (e1t N l7) U6)
def G0(N:Nat):Nat->GValue->GValue->Option (Bool)|0=>fun _ _=>none|d+1=>R0 N (G0 N d)
theorem b7f(N:Nat):∀d,Sound Tryz.prog GW x6 48 (b4u fun x y=>G0 N d x.1 x.2.1)
 |0=>Sound.never Tryz.call48 (fun _ _=>rfl)
 |d+1=>d0f N (G0 N d) (b7f N d)
def a9R(_N:Nat)(c21:Int)(t20:List τ9)(k0:ρ35)(self:Int->τ24->Option τ24)(s22:Int)(w1005:List d3):Option τ24:=br (decide (s22<c21)) (k8 (n8 t20 s22) fun t24=>br (Zf (w1005.length + [t24.1].length) .str) (self (IntKind.i64.wrap (s22+(1:Int))) (w1005 ++ [t24.1])) none) (k0 w1005)
def b4r(N:Nat)(c21:Int)(t20:List τ9)(k0:ρ35):Nat->Int->τ24->Option τ24|0,_,_=>none|n+1,s22,w1005=>a9R N c21 t20 k0 (b4r N c21 t20 k0 n) s22 w1005
def a9S(N:Nat)(c44:Int)(c1002_0_1:d3)(c1002_1_2:d3)(c1002_2_3:List τ9)(c1003_0_4:d3)(c1003_1_5:d3)(c1003_2_6:List τ9)(t43:List d3)(k2:ρ35)(self:Int->τ24->Option τ24)(s45:Int)(w1006:List d3):Option τ24:=br (decide (s45<c44)) (br (decide (0<=s45/\s45<(t43.length:Int))) (k8 (n8 t43 s45) fun t48=>k8 (a17 N (c1002_0_1,c1002_1_2,c1002_2_3) t48) fun t52=>k8 (a17 N (c1003_0_4,c1003_1_5,c1003_2_6) t48) fun t58=>br (t52.2 !=t58.2) (br (Zf (w1006.length + [t48].length) .str) (self (IntKind.i64.wrap (s45+(1:Int))) (w1006 ++ [t48])) none) (k8 (G0 N N (GValue.mk t52.1.kind t52.1.text t52.1.number t52.1.list t52.1.cases) (GValue.mk t58.1.kind t58.1.text t58.1.number t58.1.list t58.1.cases)) fun t67=>br (!t67) (br (Zf (w1006.length + [t48].length) .str) (self (IntKind.i64.wrap (s45+(1:Int))) (w1006 ++ [t48])) none) (self (IntKind.i64.wrap (s45+(1:Int))) w1006))) none) (k2 w1006)
def b0U(N:Nat)(c44:Int)(c1002_0_1:d3)(c1002_1_2:d3)(c1002_2_3:List τ9)(c1003_0_4:d3)(c1003_1_5:d3)(c1003_2_6:List τ9)(t43:List d3)(k2:ρ35):Nat->Int->τ24->Option τ24|0,_,_=>none|n+1,s45,w1006=>a9S N c44 c1002_0_1 c1002_1_2 c1002_2_3 c1003_0_4 c1003_1_5 c1003_2_6 t43 k2 (b0U N c44 c1002_0_1 c1002_1_2 c1002_2_3 c1003_0_4 c1003_1_5 c1003_2_6 t43 k2 n) s45 w1006
def Z2(N:Nat)(x0:d3×d3×List τ9)(x1:d3×d3×List τ9):Option τ24:=k8 (Y2 N [x0.2.2,x1.2.2]) fun t20=>b4r N (t20.length:Int) t20 (fun o0_w1005=>k8 (w6 o0_w1005) fun t33=>br (!(x0.2.1==x1.2.1)) (br (Zf (([]:List d3).length + [([107,105,110,100]:d3)].length) .str) (k8 (q8 t33) fun t43=>b0U N (t43.length:Int) x0.1 x0.2.1 x0.2.2 x1.1 x1.2.1 x1.2.2 t43 (fun o1_w1006=>some o1_w1006) N (0:Int) (([]:List d3) ++ [([107,105,110,100]:d3)])) none) (k8 (q8 t33) fun t43_7=>b0U N (t43_7.length:Int) x0.1 x0.2.1 x0.2.2 x1.1 x1.2.1 x1.2.2 t43_7 (fun o1_w1006=>some o1_w1006) N (0:Int) ([]:List d3))) N (0:Int) ([]:List d3)
abbrev e66(f:SV [.v τ6,.v τ6]->BV []->Option τ24):AF:={ps:=[.v τ6,.v τ6],bs:=[],rs:=[.row 0],cs:=[.row 9 .str false],R:=List d3,out:=fun z=>(((),()),z,()),f:=f}
abbrev c7e(N:Nat):AF:=e66 fun x _=>Z2 N x.1 x.2.1
abbrev d5p:SV [.row 0]->BV [.row 9 .str false]->τ24:=fun _ y=>y.1
def c5y(N:Nat):FuncId->Option Tmp->Option AF:=fun f _=>P0 [(44,e2j N),(45,f2r fun _ y=>w6 y.1),(46,e3S fun _ y=>q8 y.1),(47,c75 N),(48,b4u fun x _=>G0 N N x.1 x.2.1)] f
theorem d0G(N:Nat):H5 (c5y N):=fun _ _ _ h=>r9 h (u4 (d7M N) (u4 (c3t) (u4 (c2p) (u4 (d2w N) (u4 (b7f N N) F1)))))
def e30:Nat->Hint:=fun i=>
 match i with
 |0=>⟨[],[2,3,5,6,20,21,22],[1002,1003,1005,1006,102000],[2,3,5,6],[1002,1003,1005,1006],[]⟩
 |2=>⟨[],[2,3,6,43,44,45],[1002,1003,1005,1006],[6],[1006],[]⟩
 |_=>o5
abbrev b7b(N:Nat):Env:=M5 e30 (c5y N) (fun i=>match i with|5=>true|_=>false) (fun _=>false)
noncomputable abbrev e65:Code:=P9 (m8 Tryz.f24) [true,true,false,true,false,false]
noncomputable abbrev e64:Code:=P9 (m8 Tryz.f24) [true,true,true,true,true,false,true,false,false]
abbrev e3Z(N:Nat):=B4 (b7b N) Tryz.f24 (c7e N) d5p
abbrev d0E:List (Nat×Sl):=[(2,.box 1002 0),(3,.box 1003 0),(5,.row 1005),(6,.row 1006),(20,.row 102000),(21,.v τ3),(22,.v τ3)]
abbrev b7c:List (Nat×Sb):=[(1002,.cells [.v .str,.v .str,.v τ31]),(1003,.cells [.v .str,.v .str,.v τ31]),(1005,.row 9 .str true),(1006,.row 9 .str false),(102000,.row 56 τ12 false)]
def b4s(y:HV b7c):St:=⟨76,[(2,.box 1002 0),(3,.box 1003 0),(5,.row 1005),(6,.row 1006)],[(1002,.cells [.v .str y.1.1,.v .str y.1.2.1,.v τ31 y.1.2.2.1]),(1003,.cells [.v .str y.2.1.1,.v .str y.2.1.2.1,.v τ31 y.2.1.2.2.1]),(1005,.row 9 .str true y.2.2.1),(1006,.row 9 .str false y.2.2.2.1)]⟩
def c2z(N:Nat):T9 (τ24) d0E b7c:=fun K n x y=>b4r N x.2.2.2.2.2.1 y.2.2.2.2.1 (fun o0_w1005=>K 0 (b4s (y.1,y.2.1,o0_w1005,y.2.2.2))) n x.2.2.2.2.2.2.1 y.2.2.1
abbrev d0F:List (Nat×Sl):=[(2,.box 1002 0),(3,.box 1003 0),(6,.row 1006),(43,.row 1005),(44,.v τ3),(45,.v τ3)]
abbrev b7d:List (Nat×Sb):=[(1002,.cells [.v .str,.v .str,.v τ31]),(1003,.cells [.v .str,.v .str,.v τ31]),(1005,.row 9 .str true),(1006,.row 9 .str false)]
def b4t(y:HV b7d):St:=⟨76,[(6,.row 1006)],[(1006,.row 9 .str false y.2.2.2.1)]⟩
def c2A(N:Nat):T9 (τ24) d0F b7d:=fun K n x y=>b0U N x.2.2.2.2.1 y.1.1 y.1.2.1 y.1.2.2.1 y.2.1.1 y.2.1.2.1 y.2.1.2.2.1 y.2.2.1 (fun o1_w1006=>K 2 (b4t (y.1,y.2.1,y.2.2.1,o1_w1006,y.2.2.2.2))) n x.2.2.2.2.2.1 y.2.2.2.1
def c5x(N:Nat):Nat->Code->St->(Ex->St->Option τ24)->Option τ24:=fun i c=>
 match i with
 |0=>U4 (b7b N) N 76 (c2z N) 0 c
 |2=>U4 (b7b N) N 76 (c2A N) 2 c
 |i=>LpD (b7b N) N i c
theorem e1E(N:Nat):B2 (c5x N) (b7b N) N (e3Z N) 2 e64:=
 o0 (c2A N) (fun K f x y=>a9S N x.2.2.2.2.1 y.1.1 y.1.2.1 y.1.2.2.1 y.2.1.1 y.2.1.2.1 y.2.1.2.2.1 y.2.2.1 (fun o1_w1006=>K 2 (b4t (y.1,y.2.1,y.2.2.1,o1_w1006,y.2.2.2.2))) (fun s45 w1006=>f (x.1,x.2.1,x.2.2.1,x.2.2.2.1,x.2.2.2.2.1,s45,x.2.2.2.2.2.2) (y.1,y.2.1,y.2.2.1,w1006,y.2.2.2.2)) x.2.2.2.2.2.1 y.2.2.2.1)
theorem e1D(N:Nat):B2 (c5x N) (b7b N) N (e3Z N) 0 e65:=
 o0 (c2z N) (fun K f x y=>a9R N x.2.2.2.2.2.1 y.2.2.2.2.1 (fun o0_w1005=>K 0 (b4s (y.1,y.2.1,o0_w1005,y.2.2.2))) (fun s22 w1005=>f (x.1,x.2.1,x.2.2.1,x.2.2.2.1,x.2.2.2.2.1,x.2.2.2.2.2.1,s22,x.2.2.2.2.2.2.2) (y.1,y.2.1,w1005,y.2.2.2)) x.2.2.2.2.2.2.1 y.2.2.1)
theorem d0H(N:Nat):I6 24 (c7e N):=
 a0l (t6 e30 (c5y N) _ _ (d0G N)) Tryz.func24 Tryz.call24 (c7e N) d5p N (c5x N) (P5 (e1D N) (P5 (e1E N) U6))
end
end
noncomputable section
noncomputable section
def a5D(N:Nat)(c22:List τ19)(c23:Int)(κ3_1:List τ19)(k0:Option Bool)(self:ρ33)(s24:Int):Option Bool:=br (decide (s24<c23)) (k8 (n8 c22 s24) fun t27=>k8 (n8 κ3_1 s24) fun t34=>br (!(t27.1==t34.1)) (some false) (k8 (n8 κ3_1 s24) fun t45=>br ((t27.2.2.length:Int) !=(t45.2.2.length:Int)) (some false) (k8 (n8 κ3_1 s24) fun t56=>k8 (Z2 N t27 t56) fun t58=>br (decide ((t58.length:Int)>(0:Int))) (some false) (self (IntKind.i64.wrap (s24+(1:Int))))))) (k0)
def b9M(N:Nat)(c22:List τ19)(c23:Int)(κ3_1:List τ19)(k0:Option Bool):Nat->Int->Option Bool|0,_=>none|n+1,s24=>a5D N c22 c23 κ3_1 k0 (b9M N c22 c23 κ3_1 k0 n) s24
def a0G(N:Nat)(x0:d3×List τ19)(x1:d3×List τ19):Option Bool:=br (!(x0.1==x1.1)) (some false) (br ((x0.2.length:Int) !=(x1.2.length:Int)) (some false) (b9M N x0.2 (x0.2.length:Int) x1.2 (some true) N (0:Int)))
abbrev e6K:=E3 [.v τ33,.v τ33] [] [.v .bool] [] (Bool) fun z=>((z,()),())
abbrev d45(N:Nat):AF:=e6K fun x _=>a0G N x.1 x.2.1
abbrev d46:SV [.v .bool]->BV []->Bool:=fun x _=>x.1
def d44(N:Nat):FuncId->Option Tmp->Option AF:=fun f _=>P0 [(24,c7e N)] f
theorem d0a(N:Nat):H5 (d44 N):=fun _ _ _ h=>r9 h (u4 (d0H N) F1)
def f1g:Nat->Hint:=fun i=>
 match i with
 |0=>⟨[],[3,22,23,24],[1003],[],[],[]⟩
 |100006=>⟨[1003,1006],[1],[],[],[],[]⟩
 |_=>o5
abbrev c67(N:Nat):Env:=M5 f1g (d44 N) FF FF
noncomputable abbrev e6J:Code:=P9 (m8 Tryz.f8) [true,true,false,true,false,false]
abbrev f1f(N:Nat):=B4 (c67 N) Tryz.f8 (d45 N) d46
abbrev c99:List (Nat×Sl):=[(3,.box 1003 0),(22,.v (.sl τ6)),(23,.v τ3),(24,.v τ3)]
abbrev c98:List (Nat×Sb):=[(1003,.cells [.v .str,.v (.sl τ6)])]
def c2l(N:Nat):T9 (Bool) c99 c98:=fun K n x y=>b9M N x.2.1 x.2.2.1 y.1.2.1 (K 0 ⟨63,[],[]⟩) n x.2.2.2.1
def d43(N:Nat):Nat->Code->St->(Ex->St->Option Bool)->Option Bool:=fun i c=>
 match i with
 |0=>U4 (c67 N) N 63 (c2l N) 0 c
 |i=>LpD (c67 N) N i c
theorem e1s(N:Nat):B2 (d43 N) (c67 N) N (f1f N) 0 e6J:=
 o0 (c2l N) (fun K f x y=>a5D N x.2.1 x.2.2.1 y.1.2.1 (K 0 ⟨63,[],[]⟩) (fun s24=>f (x.1,x.2.1,x.2.2.1,s24,x.2.2.2.2) y) x.2.2.2.1)
theorem d0b(N:Nat):I6 8 (d45 N):=
 X0 (d0a N) Tryz.func8 Tryz.call8 (d45 N) d46 N (d43 N) (P5 (e1s N) U6)
def H1(N:Nat)(x0:d3×List τ19):Option Bool:=k8 (R8 N x0) fun t11=>k8 (X5 N x0) fun t16=>br (t11.2 !=t16.2) (some false) (br (!(t11.1==t16.1)) (some false) (k8 (a5b N) fun t28=>br (!t28) (some false) (br (t11.2 !=(0:Int)) (some true) (k8 (a0r N (x0.1,t11.1,([]:List R2),([]:List τ7))) fun t38=>br (t38.2.2==(16:Int)) (some true) (br (t38.2.2==(0:Int)) (br (t38.2.1==(0:Int)) (k8 (a0G N x0 t38.1) fun t54=>some t54) (some false)) (some false))))))
abbrev f7K:=E3 [.v τ33] [] [.v .bool] [] (Bool) fun z=>((z,()),())
abbrev z8g(N:Nat):AF:=f7K fun x _=>H1 N x.1
theorem e3i(N:Nat):I6 3 (z8g N):=
 N9 h0 (u4 (d0P N) (u4 (d1y N) (u4 (d2o N) (u4 (b7U N) (u4 (d0b N) F1))))) Tryz.func3 Tryz.call3 (z8g N) (fun x _=>x.1) N
end
end
section
def z7:Nat:=18446744073709551616
theorem b3k{α:Type}(xs:List α)(i:Nat):n8 xs (i:Int)=xs[i]?:=by unfold n8;rw[if_pos (by omega)];rfl
theorem a4D{α:Type}(xs:List α):n8 xs 0=xs[0]?:=b3k xs 0
theorem m7{α:Type}(xs:List α){i:Nat}(h:i<xs.length):n8 xs (i:Int)=some xs[i]:=by rw[b3k,List.getElem?_eq_getElem h]
theorem M8{n:Int}(h0:-9223372036854775808<=n)(h:n<=9223372036854775807):IntKind.i64.wrap n=n:=by
 simp[IntKind.wrap,IntKind.signed,IntKind.bits];omega
theorem u5{α:Type}{xs:List α}(hx:xs.length<=maxLen){i:Nat}(h:i<xs.length):IntKind.i64.wrap ((i:Int)+1)=((i+1:Nat):Int):=by
 unfold maxLen at hx;rw[M8 (by omega) (by omega)];rfl
theorem c9U{i:Nat}(h:i<=9223372036854775807):IntKind.i64.wrap ((i:Int)-1)=(i:Int)-1:=M8 (by omega) (by omega)
theorem a6V{α:Type}(xs:List α){i:Nat}(h:i<=xs.length):slc xs 0 (i:Int)=some (xs.take i):=by
 unfold slc;rw[if_pos ⟨by omega,by omega,by omega⟩];simp
theorem e6w(a b:UInt8):(a==b)=decide (a.toNat=b.toNat):=by
 show decide (a=b)=_;exact decide_eq_decide.2 UInt8.toNat_inj.symm
theorem I1{α:Type}{xs:List α}{i:Nat}(h:i<xs.length):decide ((i:Int)<(xs.length:Int))=true:=decide_eq_true (by omega)
theorem P6{α:Type}{xs:List α}:decide ((xs.length:Int)<(xs.length:Int))=false:=decide_eq_false (by omega)
def N0{α R:Type}(body:Nat->α->R->R)(k:R):List α->Nat->R | [],_=>k|x :: xs,i=>body i x (N0 body k xs (i+1))
theorem b6w{α R:Type}{f:Nat->Int->Option R}{T:(Int->Option R)->Int->Option R}(hf:∀n s,f (n+1) s=T (f n) s)(xs:List α){body:Nat->α->R->R}{k:R}
  (hT:∀(self:Int->Option R) (i:Nat) (h:i<xs.length) (r:R),self ((i+1:Nat):Int)=some r->T self (i:Int)=some (body i xs[i] r))
  (hE:∀self:Int->Option R,T self (xs.length:Int)=some k):
  ∀(m n i:Nat),i+m=xs.length->m<n->f n (i:Int)=some (N0 body k (xs.drop i) i)
 |0,n,i,hi,hn=>by
  obtain⟨n,rfl⟩:∃j,n=j+1:=⟨n-1,by omega⟩;have:i=xs.length:=by omega
  subst this;rw[hf,hE,List.drop_length];rfl
 |m+1,n,i,hi,hn=>by
  obtain⟨n,rfl⟩:∃j,n=j+1:=⟨n-1,by omega⟩;have hlt:i<xs.length:=by omega
  have ih:=b6w hf xs hT hE m n (i+1) (by omega) (by omega);rw[hf,hT _ i hlt _ ih,List.drop_eq_getElem_cons hlt];rfl
theorem A8{α R:Type}{f:Nat->Int->Option R}{T:(Int->Option R)->Int->Option R}(hf:∀n s,f (n+1) s=T (f n) s)(xs:List α)(hx:xs.length<=maxLen){body:Nat->α->R->R}{k:R}
  (hT:∀(self:Int->Option R) (i:Nat) (h:i<xs.length) (r:R),self ((i+1:Nat):Int)=some r->T self (i:Int)=some (body i xs[i] r))
  (hE:∀self:Int->Option R,T self (xs.length:Int)=some k) {N:Nat} (hN:z7<=N):f N 0=some (N0 body k xs 0):=by
 have:=b6w hf xs hT hE xs.length N 0 (by omega) (by unfold maxLen at hx;unfold z7 at hN;omega);simpa using this
def a9u{α:Type}(p:α->Bool)(xs:List α):Int:=N0 (fun i x r=>if p x=true then(i:Int)else r) (-1) xs 0
theorem b6r{α:Type}(p:α->Bool):∀(xs:List α) (j:Nat),let r:=N0 (fun i x r=>if p x=true then(i:Int)else r) (-1) xs j
  (xs.find? p=none/\r = -1)\/∃i x,xs.find? p=some x/\xs[i]? = some x/\p x=true/\r=((j+i:Nat):Int)
 |[],_=> .inl ⟨rfl,rfl⟩
 |x :: xs,j=>by
  cases hp:p x with
  |true=>exact .inr ⟨0,x,by simp[hp],rfl,hp,by simp[N0,hp]⟩
  |false=>
   rcases b6r p xs (j+1)with⟨h1,h2⟩|⟨i,y,h1,h2,h3,h4⟩
   ·exact .inl ⟨by simp[hp,h1],by simp only[N0,hp];simpa using h2⟩
   ·exact .inr ⟨i+1,y,by simp[hp,h1],by simpa using h2,h3,by simp only[N0,hp];rw[if_neg (by simp),h4];congr 1;omega⟩
theorem c4H{α:Type}(p:α->Bool)(xs:List α):(xs.find? p=none/\a9u p xs = -1)\/∃(i:Nat) (x:α),xs.find? p=some x/\xs[i]? = some x/\p x=true/\a9u p xs=(i:Int):=by
 rcases b6r p xs 0 with h|⟨i,x,h1,h2,h3,h4⟩
 ·exact .inl h
 ·exact .inr ⟨i,x,h1,h2,h3,by rw[a9u,h4];simp⟩
theorem a0p{α:Type}(p:α->Bool)(xs:List α):decide (a9u p xs>=0)=xs.any p:=by
 rcases c4H p xs with⟨h1,h2⟩|⟨i,x,h1,h2,h3,h4⟩
 ·rw[h2];have:xs.any p=false:=by rw[List.any_eq_false];intro x hx;have:=List.find?_eq_none.1 h1 x hx;simpa using this
  rw[this];rfl
 ·rw[h4];have:xs.any p=true:=List.any_eq_true.2 ⟨x,List.mem_of_getElem? h2,h3⟩;rw[this];exact decide_eq_true (by omega)
end
section
theorem a9y{S R:Type}{f:Nat->Int->S->Option R}{T:(Int->S->Option R)->Int->S->Option R}(hf:∀n i s,f (n+1) i s=T (f n) i s)(m:Nat)(st:Nat->S){r:Option R}
  (hT:∀(self:Int->S->Option R) (i:Nat),i<m->self ((i+1:Nat):Int) (st (i+1))=r->T self (i:Int) (st i)=r)
  (hE:∀self:Int->S->Option R,T self (m:Int) (st m)=r):
  ∀(d n i:Nat),i+d=m->d<n->f n (i:Int) (st i)=r
 |0,n,i,hi,hn=>by
  obtain⟨n,rfl⟩:∃j,n=j+1:=⟨n-1,by omega⟩;have:i=m:=by omega
  subst this;rw[hf,hE]
 |d+1,n,i,hi,hn=>by
  obtain⟨n,rfl⟩:∃j,n=j+1:=⟨n-1,by omega⟩;rw[hf];exact hT _ i (by omega) (a9y hf m st hT hE d n (i+1) (by omega) (by omega))
theorem a5c{S R:Type}{f:Nat->Int->S->Option R}{T:(Int->S->Option R)->Int->S->Option R}(hf:∀n i s,f (n+1) i s=T (f n) i s){m:Nat}(hm:m<=maxLen)(st:Nat->S){r:Option R}
  (hT:∀(self:Int->S->Option R) (i:Nat),i<m->self ((i+1:Nat):Int) (st (i+1))=r->T self (i:Int) (st i)=r)
  (hE:∀self:Int->S->Option R,T self (m:Int) (st m)=r) {N:Nat} (hN:z7<=N):f N 0 (st 0)=r:=by
 have:=a9y hf m st hT hE m N 0 (by omega) (by unfold maxLen at hm;unfold z7 at hN;omega);simpa using this
theorem a1d{R:Type}{p:Prop}[Decidable p]{x y:Option R}(h:p):br (decide p) x y=x:=by rw[decide_eq_true h,d9]
theorem a4V{R:Type}{p:Prop}[Decidable p]{x y:Option R}(h:¬p):br (decide p) x y=y:=by rw[decide_eq_false h,g9]
theorem L4{i m:Nat}(h:i<m):decide ((i:Int)<(m:Int))=true:=decide_eq_true (by omega)
theorem Q5{m:Nat}:decide ((m:Int)<(m:Int))=false:=decide_eq_false (by omega)
theorem Y5{m:Nat}(hm:m<=maxLen){i:Nat}(h:i<m):IntKind.i64.wrap ((i:Int)+1)=((i+1:Nat):Int):=by
 unfold maxLen at hm;rw[M8 (by omega) (by omega)];rfl
end
section
open Go Go.RowKit Go.ChangeShapes Go.WideShapes
def FitG(RR:(i:RC)->i.den->Prop):(t:Ty)->t.den->Prop | .u8,_=>True | .int k,x=>(Lit.int k x).wf=true | .bool,_=>True | .str,x=>x.length<=maxLen | .sl t,xs=>xs.length<=maxLen/\∀x∈xs,FitG RR t x | .pr a b,x=>FitG RR a x.1/\FitG RR b x.2 | .un,_=>True | .mp _,_=>True | .ptr _,_=>True | .np _,_=>True | .nl,_=>True | .clo _ _,_=>True | .rc i,x=>RR i x
def FitR(i:RC)(x:i.den):Prop:=∀RR:(i:RC)->i.den->Prop,(∀j y,FitG RR j.body (j.un y)->RR j y)->RR i x
def Fit:(t:Ty)->t.den->Prop:=FitG FitR
theorem FitG.mono{RR RR':(i:RC)->i.den->Prop}(hR:∀i x,RR i x->RR' i x):∀(t:Ty) (x:t.den),FitG RR t x->FitG RR' t x
 |.u8,_,h=>h
 |.int _,_,h=>h
 |.bool,_,h=>h
 |.str,_,h=>h
 |.sl t,_,h=>⟨h.1,fun x hx=>FitG.mono hR t x (h.2 x hx)⟩
 |.pr a b,_,h=>⟨FitG.mono hR a _ h.1,FitG.mono hR b _ h.2⟩
 |.un,_,h=>h
 |.mp _,_,h=>h
 |.ptr _,_,h=>h
 |.np _,_,h=>h
 |.nl,_,h=>h
 |.clo _ _,_,h=>h
 |.rc i,x,h=>hR i x h
theorem FitR.intro{i:RC}{x:i.den}(h:Fit i.body (i.un x)):FitR i x:=
 fun RR hc=>hc i x (FitG.mono (fun j y hy=>hy RR hc) _ _ h)
theorem FitR.elim{i:RC}{x:i.den}(h:FitR i x):Fit i.body (i.un x):=
 h (fun j y=>Fit j.body (j.un y)) fun _ _ hy=>FitG.mono (fun _ _ h=>FitR.intro h) _ _ hy
mutual
inductive Deep(P:Program)(R:RC->Option TypeId):Ty->TypeId->Prop where
 |u8 {T:TypeId}:P.underlying T=some (.int .u8)->Deep P R .u8 T
 |int {T:TypeId} {k:IntKind}:P.underlying T=some (.int k)->Deep P R (.int k) T
 |bool {T:TypeId}:P.underlying T=some .bool->Deep P R .bool T
 |str {T:TypeId}:P.underlying T=some .string->Deep P R .str T
 |sl {T e:TypeId} {t:Ty}:P.underlying T=some (.slice e)->P.cellsOf e=t.sz->Deep P R t e->Deep P R (.sl t) T
 |st {T:TypeId} {t:Ty} {fs:Array Field}:P.underlying T=some (.struct fs)->P.cellsOf T=t.sz->t.isAgg=true->DeepF P R t fs.toList 0->Deep P R t T
 |rc {T:TypeId} {i:RC}:R i=some T->Deep P R (.rc i) T
inductive DeepF(P:Program)(R:RC->Option TypeId):Ty->List Field->Nat->Prop where
 |nil {o:Nat}:DeepF P R .un [] o
 |one {t:Ty} {f:Field} {o:Nat}:f.offset=o->P.cellsOf f.type=t.sz->Deep P R t f.type->DeepF P R t [f] o
 |single {t:Ty} {f:Field} {o:Nat}:f.offset=o->P.cellsOf f.type=t.sz->Deep P R t f.type->DeepF P R (.pr t .un) [f] o
 |cons {a b:Ty} {f:Field} {fs:List Field} {o:Nat}:f.offset=o->P.cellsOf f.type=a.sz->Deep P R a f.type->DeepF P R b fs (o+a.sz)->DeepF P R (.pr a b) (f :: fs) o
end
def e5A(P:Program)(R:RC->Option TypeId):Prop:=∀i T,R i=some T->∃fs,P.underlying T=some (.struct fs)/\P.cellsOf T=i.sz/\DeepF P R i.body fs.toList 0
abbrev M00:Nat->Nat->Prop:=fun _ _=>False
section
variable{H:Type}{enc:TypeId×Value->H}{P:Program}{w:World}{spare:Nat->Bool}{held:Bool}{R:RC->Option TypeId}
theorem b1D{α:Type}{p:Nat->α->Prop}:∀n,(∀i,i<n->∃x,p i x)->∃l:List α,l.length=n/\∀i (h:i<l.length),p i l[i]
 |0,_=>⟨[],rfl,fun i h=>absurd h (Nat.not_lt_zero _)⟩
 |n+1,h=>by
  obtain⟨l,hl,hp⟩:=b1D n fun i hi=>h i (Nat.lt_succ_of_lt hi)
  obtain⟨x,hx⟩:=h n (Nat.lt_succ_self _);refine⟨l ++ [x],by simp[hl],fun i hi=>?_⟩;rcases Nat.lt_or_ge i l.length with h'|h'
  ·rw[List.getElem_append_left h'];exact hp i h'
  ·have:i=l.length:=by simp at hi;omega
   subst this;simp[hl,hx]
theorem c1v{a:Addr}{n:Nat}{cs:List Value}(h:w.cells? 0 a n=some cs):Pl M00 w a cs:=by
 intro j u hu;refine⟨?_,id⟩;unfold World.cells? at h;rw[if_pos (Nat.zero_le _)]at h;have hl:=mapM_some_length h;have hj:j<n:=by
  rcases Nat.lt_or_ge j cs.length with h'|h'
  ·rw[hl,List.length_range]at h';exact h'
  ·rw[List.getElem?_eq_none h']at hu;cases hu
 have:=mapM_some_get h j j (by rw[List.getElem?_range hj]);rw[this];exact hu
end
theorem e0P{P:Program}{f:FuncId}{ps:List Sl}{F:SV ps->BV []->Option Bool}{out:Bool->SV [.v .bool]×BV []}(hout:∀z,(out z).1=(z,()))(hs:Sound P GW x6 f ⟨ps,[],[.v .bool],[],Bool,out,F⟩)
  {W:World} {vs:List Value} {x:SV ps} (hg:GW W) (ha:All2 (RepD0 M00 W g0) (a0E id ps x) vs) (hf:F x ()=some true):Calls P f vs.toArray W fun e W'=>e = .returned (.bool true)/\Ext W W':=by
 refine(hs.2 M00 W g0 vs x () true hg (c6c hg) {args:=ha,res:=fun r blk h=>(by cases h),dom:=fun r gx h=>(by cases h),inj:=fun _ _ _ _ _ h=>(by cases h),low:=fun _ _ _ h=>(by cases h),chg:=fun _ _ _ _ h=>(by cases h),mlt:=fun b o h=>h.elim,row:=fun _ _ _ h=>(by cases h)} hf).mono fun e W' hp=>?_
 obtain⟨vs',g',he,hE,_,hF,_⟩:=hp;refine⟨?_,hE.ext fun b hb=>?_⟩
 ·have:=hF.args;rw[hout]at this
  match vs',this with
  |[v],⟨h1,_⟩=>
   have h2:=RepV.plain (t:= .bool) rfl h1;have h3:[v]=[.bool true]:=h2;injection h3 with h3
   rw[he,h3];rfl
 ·obtain⟨r,x,h,_⟩:=hb;cases h
end
section
open Go Go.RowKit Go.ChangeShapes Go.WideShapes
def M4(rb:(i:RC)->i.den->Nat):(t:Ty)->t.den->Nat | .u8,_=>1 | .int _,_=>1 | .bool,_=>1 | .str,x=>x.length+1 | .sl t,xs=>(xs.map (M4 rb t)).sum+1 | .pr a b,x=>M4 rb a x.1+M4 rb b x.2 | .un,_=>0 | .mp _,_=>0 | .ptr _,_=>0 | .np _,_=>0 | .nl,_=>0 | .clo _ _,_=>0 | .rc i,x=>rb i x
def e5z(rb:(i:RC)->i.den->Nat):Prop:=∀i x,rb i (i.mk x)<=M4 rb i.body x+1
def GValue.bulk:GValue->Nat | .mk _ t _ l cs=>1+(t.length+1+(1+((l.map (·.length+1)).sum+1+((cs.attach.map (fun c=>c.1.1.length+1+GValue.bulk c.1.2)).sum+1))))+1
termination_by v=>SizeOf.sizeOf v
decreasing_by
 have:=List.sizeOf_lt_of_mem c.2;have h2:SizeOf.sizeOf c.1=1+SizeOf.sizeOf c.1.1+SizeOf.sizeOf c.1.2:=by cases c.1;rfl
 simp_wf
 omega
def GExpr.bulk:GExpr->Nat | .mk _ t _ l cs=>1+(t.length+1+(1+((l.map (·.length+1)).sum+1+((cs.attach.map (fun c=>GExpr.bulk c.1)).sum+1))))+1
termination_by v=>SizeOf.sizeOf v
decreasing_by
 have:=List.sizeOf_lt_of_mem c.2
 simp_wf
 omega
def GStmt.bulk:GStmt->Nat | .mk _ n t l a e b f _=>1+(n.length+1+(t.length+1+((l.map (·.length+1)).sum+1+((a.map (fun c=>c.1.length+1+c.2.bulk)).sum+1+(e.bulk+((b.attach.map (fun c=>GStmt.bulk c.1)).sum+1+((f.attach.map (fun c=>GStmt.bulk c.1)).sum+1+1)))))))+1
termination_by v=>SizeOf.sizeOf v
decreasing_by
 all_goals
  have:=List.sizeOf_lt_of_mem c.2
  simp_wf
  omega
def rbC:(i:RC)->i.den->Nat | .value,x=>GValue.bulk x | .expr,x=>GExpr.bulk x | .stmt,x=>GStmt.bulk x | .part,_=>0
theorem a4T{α β:Type}(f:α->β)(l:List α):l.attach.map (fun c=>f c.1)=l.map f:=by
 rw[show(fun c:{x // x∈l}=>f c.1)=f∘Subtype.val from rfl,<-List.map_map,List.attach_map_subtype_val]
theorem e58:e5z rbC:=by
 intro i x;cases i with
 |value=>
  obtain⟨k,t,n,l,cs⟩:=x;have e:GValue.bulk (.mk k t n l cs)=M4 rbC RC.value.body ((k,t,n,l,cs):RC.value.body.den)+1:=by
   rw[GValue.bulk,a4T (fun c:d3×GValue=>c.1.length+1+GValue.bulk c.2) cs];rfl
  exact Nat.le_of_eq e
 |expr=>
  obtain⟨k,t,n,l,cs⟩:=x;have e:GExpr.bulk (.mk k t n l cs)=M4 rbC RC.expr.body ((k,t,n,l,cs):RC.expr.body.den)+1:=by
   rw[GExpr.bulk,a4T (fun c:GExpr=>GExpr.bulk c) cs];rfl
  exact Nat.le_of_eq e
 |stmt=>
  obtain⟨k,n,t,l,a,e,b,f,p⟩:=x;have e:GStmt.bulk (.mk k n t l a e b f p)=M4 rbC RC.stmt.body ((k,n,t,l,a,e,b,f,p):RC.stmt.body.den)+1:=by
   rw[GStmt.bulk,a4T (fun c:GStmt=>GStmt.bulk c) b,a4T (fun c:GStmt=>GStmt.bulk c) f];rfl
  exact Nat.le_of_eq e
 |part=>exact Nat.zero_le _
section
variable{H:Type}{enc:TypeId×Value->H}{P:Program}{w:World}{spare:Nat->Bool}{held:Bool}{R:RC->Option TypeId}{rb:(i:RC)->i.den->Nat}
theorem a5y(d:DataW H)(r:List (DataW H)):Rows.uptoBulkAll (d :: r)=Rows.uptoBulk d+Rows.uptoBulkAll r:=by simp[Rows.uptoBulkAll]
theorem c1Z:Rows.uptoBulkAll ([]:List (DataW H))=0:=by simp[Rows.uptoBulkAll]
theorem d4L{α:Type}(f:α->Nat):∀(l:List α) (e:List (DataW H×List MemPlace)),l.length=e.length->(∀i (h:i<l.length) (h':i<e.length),f l[i]<=Rows.uptoBulk e[i].1)->(l.map f).sum<=Rows.uptoBulkAll (e.map (·.1))
 |[],e,_,_=>by simp
 |x :: l,[],h,_=>by simp at h
 |x :: l,y :: e,h,hf=>by
  have h0:=hf 0 (by simp) (by simp);have ih:=d4L f l e (by simpa using h) (fun i h1 h2=>by have:=hf (i+1) (by simpa using h1) (by simpa using h2);simpa using this);simp only[List.map_cons,List.sum_cons,a5y];simp only[List.getElem_cons_zero]at h0;omega
theorem c0Y{fuel:Nat}{cs:List Value}
  (ih:∀(t:Ty) (T:TypeId) (cs:List Value) (x:DataW H×List MemPlace),Deep P R t T->DataW.trod enc P w 0 spare held fuel T cs=some x->∃d:t.den,RepC M00 w t d cs/\Fit t d/\M4 rb t d<=Rows.uptoBulk x.1):
  ∀(fs:List Field) (t:Ty) (o:Nat) (xs:List (DataW H×List MemPlace)),DeepF P R t fs o->
   (fs.mapM fun f=>DataW.trod enc P w 0 spare held fuel f.type ((cs.drop f.offset).take (P.cellsOf f.type)))=some xs->∃d:t.den,RepC M00 w t d ((cs.drop o).take t.sz)/\Fit t d/\M4 rb t d<=Rows.uptoBulkAll (xs.map (·.1)):=by
 intro fs;induction fs with
 |nil=>
  intro t o xs hd _;cases hd;exact⟨(),List.take_zero,trivial,Nat.zero_le _⟩
 |cons f fs hfs=>
  intro t o xs hd hm;obtain⟨y,ys,hy,hys,rfl⟩:∃y ys,DataW.trod enc P w 0 spare held fuel f.type ((cs.drop f.offset).take (P.cellsOf f.type))=some y/\(fs.mapM fun f=>DataW.trod enc P w 0 spare held fuel f.type ((cs.drop f.offset).take (P.cellsOf f.type)))=some ys/\xs=y :: ys:=by
   rw[List.mapM_cons]at hm;cases hy:DataW.trod enc P w 0 spare held fuel f.type ((cs.drop f.offset).take (P.cellsOf f.type))with
   |none=>rw[hy]at hm;cases hm
   |some y=>
    rw[hy]at hm;cases hys:(fs.mapM fun f=>DataW.trod enc P w 0 spare held fuel f.type ((cs.drop f.offset).take (P.cellsOf f.type)))with
    |none=>rw[hys]at hm;cases hm
    |some ys=>rw[hys]at hm;exact⟨y,ys,rfl,rfl,(Option.some.inj hm).symm⟩
  rw[List.map_cons,a5y];cases hd with
  |one ho hc h1=>
   rw[ho,hc]at hy;obtain⟨d,h1,h2,h3⟩:=ih _ _ _ _ h1 hy;exact⟨d,h1,h2,by omega⟩
  |single ho hc h1=>
   rw[ho,hc]at hy;obtain⟨d,hd1,hd2,hd3⟩:=ih _ _ _ _ h1 hy;refine⟨(d,()),⟨_,[],(List.append_nil _).symm,hd1,rfl⟩,⟨hd2,trivial⟩,?_⟩;show M4 rb _ d+0<=_;omega
  |@cons a b _ _ _ ho hc h1 h2=>
   rw[ho,hc]at hy;obtain⟨d,hd1,hd2,hd3⟩:=ih _ _ _ _ h1 hy;obtain⟨e,he1,he2,he3⟩:=hfs _ _ _ h2 hys;refine⟨(d,e),⟨_,_,?_,hd1,he1⟩,⟨hd2,he2⟩,?_⟩
   ·show(cs.drop o).take (a.sz+b.sz)=_;rw[List.take_add,List.drop_drop]
   ·show M4 rb a d+M4 rb b e<=_;omega
theorem c9P(hR:e5A P R)(hrb:e5z rb):∀(fuel:Nat) (t:Ty) (T:TypeId) (cs:List Value) (x:DataW H×List MemPlace),Deep P R t T->DataW.trod enc P w 0 spare held fuel T cs=some x->
  ∃d:t.den,RepC M00 w t d cs/\Fit t d/\M4 rb t d<=Rows.uptoBulk x.1:=by
 intro fuel;induction fuel with
 |zero=>intro t T cs x _ h;cases h
 |succ fuel ih=>
  intro t T cs x hd h;have hstruct:∀(t:Ty) (fs:Array Field),P.underlying T=some (.struct fs)->P.cellsOf T=t.sz->DeepF P R t fs.toList 0->∃d:t.den,RepC M00 w t d cs/\Fit t d/\M4 rb t d+1<=Rows.uptoBulk x.1:=fun t fs hu hc hf=>by
   unfold DataW.trod at h;simp only[hu]at h;split at h
   ·rename_i hl;cases hm:(fs.toList.mapM fun f=>DataW.trod enc P w 0 spare held fuel f.type ((cs.drop f.offset).take (P.cellsOf f.type)))with
    |none=>rw[hm]at h;cases h
    |some xs=>
     rw[hm]at h;obtain⟨d,h1,h2,h3⟩:=c0Y ih fs.toList t 0 xs hf hm;rw[List.drop_zero,List.take_of_length_le (by omega)]at h1;refine⟨d,h1,h2,?_⟩;injection h with h
     subst h;simp only[Rows.uptoBulk];omega
   ·cases h
  cases hd with
  |u8 hu=>
   have hx:∃n,cs=[.int .u8 n]/\(Lit.int .u8 n).wf=true/\x.1 = .lit (.int .u8 n):=by
    unfold DataW.trod at h;split at h
    all_goals try (simp_all;done)
    rename_i k' n hu2;rw[hu]at hu2;cases hu2;split at h
    ·rename_i hc;obtain⟨rfl,hc⟩:=hc;exact⟨n,rfl,hc,by injection h with h;rw[<-h]⟩
    ·cases h
   obtain⟨n,rfl,hn,hx⟩:=hx;refine⟨UInt8.ofNat n.toNat,?_,trivial,by rw[hx];simp[Rows.uptoBulk,M4]⟩;show [Value.int .u8 n]=[Value.int .u8 (UInt8.ofNat n.toNat).toNat];simp[Lit.wf,IntKind.min,IntKind.max,IntKind.signed,IntKind.bits]at hn;have:((UInt8.ofNat n.toNat).toNat:Int)=n:=by simp;omega
   rw[this]
  |@int _ k hu=>
   have hx:∃n,cs=[.int k n]/\(Lit.int k n).wf=true/\x.1 = .lit (.int k n):=by
    unfold DataW.trod at h;split at h
    all_goals try (simp_all;done)
    rename_i k1 k' n hu2;rw[hu]at hu2;cases hu2;split at h
    ·rename_i hc;obtain⟨rfl,hc⟩:=hc;exact⟨n,rfl,hc,by injection h with h;rw[<-h]⟩
    ·cases h
   obtain⟨n,rfl,hn,hx⟩:=hx;exact⟨n,rfl,hn,by rw[hx];simp[Rows.uptoBulk,M4]⟩
  |bool hu=>
   have hx:∃b,cs=[.bool b]/\x.1 = .lit (.bool b):=by
    unfold DataW.trod at h;split at h
    all_goals try (simp_all;done)
    injection h with h
    exact⟨_,rfl,by rw[<-h]⟩
   obtain⟨b,rfl,hx⟩:=hx;exact⟨b,rfl,trivial,by rw[hx];simp[Rows.uptoBulk,M4]⟩
  |str hu=>
   have hx:∃s:ByteArray,cs=[.string s]/\s.size<=maxLen/\x.1 = .lit (.string s.data.toList):=by
    unfold DataW.trod at h;split at h
    all_goals try (simp_all;done)
    split at h
    ·rename_i hc;injection h with h
     exact⟨_,rfl,hc,by rw[<-h]⟩
    ·cases h
   obtain⟨s,rfl,hn,hx⟩:=hx;refine⟨s.data.toList,?_,?_,by rw[hx];simp[Rows.uptoBulk,M4]⟩
   ·show [Value.string s]=[Value.string ⟨s.data.toList.toArray⟩];simp
   ·show s.data.toList.length<=maxLen;simpa using hn
  |@sl _ e t hu hc he=>
   have hx:(cs=[.slice none 0 0]/\x.1 = .nil)\/∃a len cap elems rest,cs=[.slice (some a) len cap]/\len<=cap/\cap<=maxLen/\
     ((List.range len).mapM fun i=>(w.cells? 0 (a.add (i*P.cellsOf e)) (P.cellsOf e)).bind (DataW.trod enc P w 0 spare held fuel e))=some elems/\x.1 = .slice (elems.map (·.1)) rest:=by
    unfold DataW.trod at h;split at h
    all_goals try (simp_all;done)
    ·injection h with h
     exact .inl ⟨rfl,by rw[<-h]⟩
    ·rename_i hu2;rw[hu]at hu2;cases hu2;simp only at h;split at h
     ·rename_i hb;right;cases hm:((List.range _).mapM fun i=>(w.cells? 0 (Addr.add _ (i*P.cellsOf e)) (P.cellsOf e)).bind (DataW.trod enc P w 0 spare held fuel e))with
      |none=>rw[hm]at h;cases h
      |some ys=>
       rw[hm]at h;simp only[Option.bind_some,Option.map_eq_some_iff]at h;obtain⟨rest,_,h⟩:=h;exact⟨_,_,_,ys,rest.map (·.1),rfl,hb.2.1,hb.2.2,hm,by rw[<-h]⟩
     ·cases h
   rcases hx with⟨rfl,hx⟩|⟨a,len,cap,elems,rest,rfl,h1,h2,hm,hx⟩
   ·refine⟨[],⟨none,0,rfl,Nat.le_refl _,Nat.zero_le _,fun i h=>absurd h (Nat.not_lt_zero _)⟩,⟨Nat.zero_le _,fun x h=>(by cases h)⟩,?_⟩;rw[hx];simp[Rows.uptoBulk,M4]
   ·have hl:=mapM_some_length hm;rw[List.length_range]at hl;have hall:∀i,i<len->∃d:t.den,(∃es,RepC M00 w t d es/\Pl M00 w (a.add (i*t.sz)) es)/\Fit t d/\∀h:i<elems.length,M4 rb t d<=Rows.uptoBulk elems[i].1:=fun i hi=>by
     have hi':i<elems.length:=by omega
     have hy:=mapM_some_get hm i i (by rw[List.getElem?_range hi]);rw[List.getElem?_eq_getElem hi']at hy;simp only[hc]at hy;cases hcs:w.cells? 0 (a.add (i*t.sz)) t.sz with
     |none=>rw[hcs]at hy;cases hy
     |some es=>
      rw[hcs]at hy;obtain⟨d,hd1,hd2,hd3⟩:=ih _ _ _ _ he hy;exact⟨d,⟨es,hd1,c1v hcs⟩,hd2,fun _=>hd3⟩
    obtain⟨l,hll,hp⟩:=b1D len hall;refine⟨l,⟨some a,cap,?_,by omega,h2,fun i hi=>?_⟩,⟨?_,fun x hx=>?_⟩,?_⟩
    ·rw[hll]
    ·obtain⟨⟨es,e1,e2⟩,_⟩:=hp i hi;exact⟨a,es,rfl,e1,e2⟩
    ·show l.length<=maxLen;omega
    ·obtain⟨i,hi,rfl⟩:=List.getElem_of_mem hx;exact(hp i hi).2.1
    ·rw[hx];simp only[Rows.uptoBulk,M4];have:=d4L (M4 rb t) l elems (by omega) (fun i h1 h2=>(hp i h1).2.2 h2);omega
  |st hu hc ha hf=>
   obtain⟨d,h1,h2,h3⟩:=hstruct t _ hu hc hf;exact⟨d,h1,h2,by omega⟩
  |rc hr=>
   obtain⟨fs,hu,hc,hf⟩:=hR _ _ hr;rename_i i;obtain⟨d,h1,h2,h3⟩:=hstruct i.body fs hu (by rw[hc,RC.sz_body]) hf;refine⟨i.mk d,RepC.rc.2 (by rw[RC.un_mk];exact h1),FitR.intro (by rw[RC.un_mk];exact h2),?_⟩;have:=hrb i d;show rb i (i.mk d)<=_;omega
theorem c8V(hR:e5A P R)(hrb:e5z rb){r:Reach}{base:Nat}{t:Ty}{T:TypeId}{v:Value}{d:DataW H}{p:List MemPlace}(hd:Deep P R t T)(hv:Value.okWide P w r base T v)(h:DataW.Trod enc P w 0 spare held T v d p):
  ∃x:t.den,RepV M00 w t x v/\Fit t x/\M4 rb t x<=Rows.uptoBulk d:=by
 obtain⟨fuel,hf⟩:=h;obtain⟨x,h1,h2,h3⟩:=c9P hR hrb fuel t T _ _ hd hf;refine⟨x,⟨_,h1,?_⟩,h2,h3⟩;have hagg:∀fs,P.underlying T=some (.struct fs)->t.isAgg=true->v=mkV t v.cells.toList:=fun fs hu ha=>by
  obtain⟨cs,rfl,_⟩:=okWide_struct hu hv;rw[a2d ha];simp[Value.cells]
 have hone:∀c:Value,v=c->c.cells = #[c]->t.isAgg=false->v=mkV t v.cells.toList:=fun c e hc ha=>by
  subst e;rw[hc,a1q ha]
 cases hd with
 |u8 hu=>obtain⟨n,rfl⟩:=okWide_int hu hv;exact hone _ rfl rfl rfl
 |int hu=>obtain⟨n,rfl⟩:=okWide_int hu hv;exact hone _ rfl rfl rfl
 |bool hu=>obtain⟨n,rfl⟩:=okWide_bool hu hv;exact hone _ rfl rfl rfl
 |str hu=>obtain⟨n,rfl⟩:=okWide_string hu hv;exact hone _ rfl rfl rfl
 |sl hu _ _=>obtain⟨a,l,c,rfl⟩:=okWide_slice hu hv;exact hone _ rfl rfl rfl
 |st hu _ ha _=>exact hagg _ hu ha
 |rc hr=>obtain⟨fs,hu,_⟩:=hR _ _ hr;exact hagg _ hu rfl
end
end
section
theorem a0C{n:Int}{m:Nat}(h:n=(m:Int))(hm:m<=1000000):IntKind.i64.wrap n=(m:Int):=by
 rw[h,M8 (by omega) (by omega)]
theorem a4e{a b:UInt8}(h:a≠b):(a==b)=false:=by
 rw[e6w];exact decide_eq_false fun e=>h (UInt8.toNat_inj.1 e)
theorem a8R{α:Type}(xs:List α){i j:Nat}(h1:i<=j)(h2:j<=xs.length):slc xs (i:Int) (j:Int)=some ((xs.take j).drop i):=by
 unfold slc;rw[if_pos ⟨by omega,by omega,by omega⟩];rfl
theorem b9r{α:Type}(xs:List α){i:Nat}(h1:i<=xs.length):slc xs (i:Int) (xs.length:Int)=some (xs.drop i):=by
 rw[a8R xs h1 (Nat.le_refl _),List.take_length]
theorem b3m(b c:UInt8)(s:d3):Lib.indexByte (b :: s) c=if b=c then 0 else if Lib.indexByte s c = -1 then -1 else Lib.indexByte s c+1:=by
 rw[Lib.indexByte];by_cases h:b=c<;>simp[h]
theorem d3J(c:UInt8):∀l:d3,Lib.indexByte l c<(l.length:Int)
 |[]=>by simp[Lib.indexByte]
 |b :: l=>by
  have:=d3J c l;rw[b3m];split
  ·simp
  ·split
   ·simp;omega
   ·simp;omega
abbrev K6:Type:=Int×d3×Int×Int
def e9Y(t:K6):Prop:=0<=t.2.2.2/\t.2.1.length<=50000
theorem c6X{R:Type}(p:UInt8->Bool)(s:d3)(hs:s.length<=50000){k:Int->Option R}{f:Nat->Int->Option R}
  (hstep:∀n (i:Nat) (hi:i<s.length),f (n+1) (i:Int)=if p s[i]=true then f n (IntKind.i64.wrap ((i:Int)+1))else k (i:Int)) (hend:∀n,f (n+1) (s.length:Int)=k (s.length:Int)):
  ∀(d i n:Nat),i+d=s.length->d<n->f n (i:Int)=k ((i+((s.drop i).takeWhile p).length:Nat):Int):=by
 intro d;induction d with
 |zero=>
  intro i n hd hn;obtain⟨n,rfl⟩:∃q,n=q+1:=⟨n-1,by omega⟩;obtain rfl:i=s.length:=by omega
  rw[hend,List.drop_length];rfl
 |succ d ih=>
  intro i n hd hn;obtain⟨n,rfl⟩:∃q,n=q+1:=⟨n-1,by omega⟩;have hi:i<s.length:=by omega
  rw[hstep n i hi,List.drop_eq_getElem_cons hi,List.takeWhile_cons];split
  ·rw[a0C (m:=i+1) (by omega) (by omega),ih (i+1) n (by omega) (by omega)];congr 1;simp only[List.length_cons];omega
  ·simp
def O4(c:UInt8):Bool:=(decide (c>=97)&&decide (c<=122))||((decide (c>=48)&&decide (c<=57))||(c==95))
def V9(c:UInt8):Bool:=decide (c>=48)&&decide (c<=57)
theorem b3o(N:Nat)(c:UInt8):J8 N c=some (decide (c>=97)&&decide (c<=122)):=by
 unfold J8;cases decide (c>=97)<;>simp
theorem a8K(N:Nat)(c:UInt8):J7 N c=some (V9 c):=by
 unfold J7 V9;cases decide (c>=48)<;>simp
theorem e0W(N:Nat)(c:UInt8):Y0 N c=some (O4 c):=by
 unfold Y0;rw[b3o,c8,a8K,c8];unfold O4 V9;cases (decide (c>=97)&&decide (c<=122))<;>cases (decide (c>=48)&&decide (c<=57))<;>simp
theorem c6W(p:UInt8->Bool)(s:d3){i:Nat}(hi:i<=s.length):i+((s.drop i).takeWhile p).length<=s.length:=by
 have:=(List.takeWhile_sublist (l:=s.drop i) p).length_le;rw[List.length_drop]at this;omega
theorem b9z(p:UInt8->Bool):∀(l:d3),∀b∈l.takeWhile p,p b=true
 |[],b,h=>by cases h
 |a :: l,b,h=>by
  rw[List.takeWhile_cons]at h;split at h
  ·rename_i hp;rcases List.mem_cons.1 h with rfl|h
   ·exact hp
   ·exact b9z p l b h
  ·cases h
theorem c1X(p:UInt8->Bool)(s:d3){i:Nat}(hi:i<=s.length):(s.take (i+((s.drop i).takeWhile p).length)).drop i=(s.drop i).takeWhile p:=by
 rw[List.drop_take,Nat.add_sub_cancel_left];have h:∀l:d3,l.take (l.takeWhile p).length=l.takeWhile p:=by
  intro l;induction l with
  |nil=>rfl
  |cons a l ih=>
   rw[List.takeWhile_cons];split
   ·rw[List.length_cons,List.take_succ_cons,ih]
   ·rfl
 exact h _
theorem e6l{N:Nat}(hN:60000<=N)(s:d3)(hs:s.length<=50000){k:Int->Option (d3×d3×Int×List K6)}{i:Nat}(hi:i<=s.length):
  c3J N s k N (i:Int)=k ((i+((s.drop i).takeWhile O4).length:Nat):Int):=by
 refine c6X O4 s hs (f:=c3J N s k) (fun n j hj=>?_) (fun n=>?_) (s.length-i) i N (by omega) (by omega)
 ·show b1o _ _ _ _ _=_;unfold b1o;rw[I1 hj,d9,m7 s hj,c8,e0W,c8,b6f]
 ·show b1o _ _ _ _ _=_;unfold b1o;rw[P6,g9]
theorem d4G{N:Nat}(hN:60000<=N)(s:d3)(hs:s.length<=50000)(w:List K6){i:Nat}(hi:i<=s.length):
  U8 N () s (i:Int) w=some ((s.drop i).takeWhile O4,s,((i+((s.drop i).takeWhile O4).length:Nat):Int),w):=by
 unfold U8;rw[e6l hN s hs hi,a8R s (Nat.le_add_right _ _) (c6W O4 s hi),c8,c1X O4 s hi]
theorem e6m{N:Nat}(hN:60000<=N)(s:d3)(hs:s.length<=50000){k:Int->Option (d3×d3×Int×List K6)}{i:Nat}(hi:i<=s.length):
  c3L N s k N (i:Int)=k ((i+((s.drop i).takeWhile V9).length:Nat):Int):=by
 refine c6X V9 s hs (f:=c3L N s k) (fun n j hj=>?_) (fun n=>?_) (s.length-i) i N (by omega) (by omega)
 ·show b1p _ _ _ _ _=_;unfold b1p;rw[I1 hj,d9,m7 s hj,c8,a8K,c8,b6f]
 ·show b1p _ _ _ _ _=_;unfold b1p;rw[P6,g9]
theorem d4H{N:Nat}(hN:60000<=N)(s:d3)(hs:s.length<=50000)(w:List K6){i:Nat}(hi:i<=s.length):
  U9 N () s (i:Int) w=some ((s.drop i).takeWhile V9,s,((i+((s.drop i).takeWhile V9).length:Nat):Int),w):=by
 unfold U9;rw[e6m hN s hs hi,a8R s (Nat.le_add_right _ _) (c6W V9 s hi),c8,c1X V9 s hi]
def c4T(acc:Nat)(l:d3):Nat:=l.foldl (fun a b=>a*10+(b.toNat-48)) acc
theorem d30{N:Nat}{k:Int->Option (Int×d3×Int×Int×d3×Int×Int×List K6)}(c:d3)(hc:c.length<=9)(hd:∀b∈c,V9 b=true):∀(d i n acc:Nat),i+d=c.length->d<n->acc<10 ^ i->
  c3y N c (c.length:Int) k n (i:Int) (acc:Int)=k (c4T acc (c.drop i):Int):=by
 intro d;induction d with
 |zero=>
  intro i n acc h hn ha;obtain⟨n,rfl⟩:∃q,n=q+1:=⟨n-1,by omega⟩;obtain rfl:i=c.length:=by omega
  show b1m _ _ _ _ _ _ _=_;unfold b1m;rw[P6,g9,List.drop_length];rfl
 |succ d ih=>
  intro i n acc h hn ha;obtain⟨n,rfl⟩:∃q,n=q+1:=⟨n-1,by omega⟩;have hi:i<c.length:=by omega
  have hb:=hd c[i] (List.getElem_mem hi);unfold V9 at hb;simp only[Bool.and_eq_true,decide_eq_true_eq,ge_iff_le,UInt8.le_iff_toNat_le]at hb;have h1:(48:UInt8).toNat=48:=rfl;have h2:(57:UInt8).toNat=57:=rfl;have hp:10 ^ i<=10 ^ 8:=Nat.pow_le_pow_right (by omega) (by omega);have hp9:(10:Nat) ^ 8=100000000:=by decide
  have hsub:(c[i]-48).toNat=c[i].toNat-48:=by
   rw[UInt8.toNat_sub_of_le _ _ (by rw[UInt8.le_iff_toNat_le];omega)];rfl
  show b1m _ _ _ _ _ _ _=_;unfold b1m;rw[I1 hi,d9,m7 c hi,c8];rw[a0C (n:=(i:Int)+1) (m:=i+1) (by omega) (by omega),hsub,M8 (n:=((c[i].toNat-48:Nat):Int)) (by omega) (by omega),M8 (n:=(10:Int)*(acc:Int)) (by omega) (by omega),M8 (by omega) (by omega)];rw[show(10:Int)*(acc:Int)+((c[i].toNat-48:Nat):Int)=((acc*10+(c[i].toNat-48):Nat):Int) by omega];rw[ih (i+1) n _ (by omega) (by omega) (by rw[Nat.pow_succ];omega),List.drop_eq_getElem_cons hi];rfl
theorem c9w(N:Nat)(l:d3):strings_HasPrefix N l [61,61]=some (l.take 2==[61,61]):=by
 unfold strings_HasPrefix stringslite_HasPrefix
 match l with
 |[]=>simp
 |[a]=>
  simp
 |a :: b :: r=>
  rw[decide_eq_true (show(((a :: b :: r:d3).length:Nat):Int)>=((([61,61]:d3).length:Nat):Int) by simp;omega),d9];rw[show(0:Int)=((0:Nat):Int)from rfl,a8R _ (by simp) (by simp),c8,c8];rfl
end
section
def S0:Bool->d3->d3|_,[]=>[]|true,c :: r=>S0 (c !=10) r|false,c :: r=>if c=32 then S0 false r else if c=9 then S0 false r else if c=10 then S0 false r else if c=13 then S0 false r else if c=35 then S0 true r else c :: r
theorem b6R:∀r:d3,S0 true r=if Lib.indexByte r 10<0 then []else S0 false (r.drop (Lib.indexByte r 10).toNat)
 |[]=>by simp[S0,Lib.indexByte]
 |b :: r=>by
  have ih:=b6R r;rw[S0,b3m];by_cases h:b=10
  ·subst h;simp[S0]
  ·have hb:(b !=10)=true:=by simp[h]
   have hg:=Lib.indexByte_ge r 10;rw[hb,ih,if_neg h];by_cases h1:Lib.indexByte r 10 = -1
   ·simp[h1]
   ·rw[if_neg h1,if_neg (show ¬Lib.indexByte r 10<0 by omega),if_neg (show ¬Lib.indexByte r 10+1<0 by omega)];rw[show(Lib.indexByte r 10+1).toNat=(Lib.indexByte r 10).toNat+1 by omega,List.drop_succ_cons]
theorem f06{n:Int}{m:Nat}(h:n=(m:Int))(hm:m<=4611686018427387905):IntKind.i64.wrap n=(m:Int):=by
 rw[h,M8 (by omega) (by omega)]
def c1M(c:UInt8):Bool:=decide (Lib.indexByte [61,43,40,41,91,93,123,125,44,58,59] c>=0)
def D0:d3->d3->Option R2 | [],_=>none | [c],acc=>if c=34 then some (acc,[])else none|c :: e :: r,acc=>if c=34 then some (acc,e :: r)else if c<32 then none else if c>126 then none else if c=92 then(if e=34 then D0 r (acc ++ [34])else if e=92 then D0 r (acc ++ [92])else if e=110 then D0 r (acc ++ [10])else none)else D0 (e :: r) (acc ++ [c])
def a1R:d3->Option (Int×d3×Int×d3) | []=>none|c :: r=>if(decide (c>=97)&&decide (c<=122))=true then(if((c :: r).takeWhile O4).length>40 then none else some (1,(c :: r).takeWhile O4,0,(c :: r).dropWhile O4))else if V9 c=true then(if((c :: r).takeWhile V9).length>9 then none else if c=48/\((c :: r).takeWhile V9).length>1 then none else some (3,[],(c4T 0 ((c :: r).takeWhile V9):Int),(c :: r).dropWhile V9))else if c=34 then(D0 r []).map fun z=>(2,z.1,0,z.2)else if c1M c=true then(if c=61/\r.head? = some 61 then some (4,[61,61],0,r.tail)else some (4,[c],0,r))else none
theorem c6v(p:UInt8->Bool):∀l:d3,l.dropWhile p=l.drop (l.takeWhile p).length
 |[]=>rfl
 |a :: l=>by
  rw[List.dropWhile_cons,List.takeWhile_cons];split
  ·rw[c6v p l,List.length_cons,List.drop_succ_cons]
  ·rfl
theorem e3p(p:UInt8->Bool)(s:d3)(i:Nat):(s.drop i).dropWhile p=s.drop (i+((s.drop i).takeWhile p).length):=by
 rw[c6v,List.drop_drop]
inductive LX(L:Nat):d3->List K6->Prop
 |nil {u:d3}:S0 false u=[]->LX L u []
 |cons {u v r t:d3} {k n:Int} {l:List K6}:S0 false u=v->a1R v=some (k,t,n,r)->v.length<=L->LX L r l->LX L u ((k,t,n,((L-v.length:Nat):Int)) :: l)
end
end Go.Proofs.YtckdohagilcloaaGreatDoor
