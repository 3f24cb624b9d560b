/- % -/
import Derived.Test.YtckdohagilcloaaGreatDoorQWeF26
import Derived.Test.YtckdohagilcloaaGreatDoorQShelfS
import Derived.Shelf.SlSortCmp.WholeK
import Derived.Shelf.SlGeneric
import Derived.Shelf.SlSortCmp.NoneTotal
import Derived.Ground.SlsfProg
import Derived.Test.YtckdohagilcloaaGreatDoorProg
namespace Go.Proofs.YtckdohagilcloaaGreatDoor
open Go Go.RowKit
set_option linter.unusedVariables false
set_option maxRecDepth 100000
section
noncomputable section
def a80(_N:Nat)(c6:ρ2)(c103:List d3)(c104:Int)(cw105100:List GValue)(k2:ρ5)(self:Int->τ25->Option (GValue×τb))(s105:Int)(w900001:List τ9):Option (GValue×τb):=br (decide (s105<c104)) (k8 (n8 c103 s105) fun t108=>k8 (n8 cw105100 s105) fun t115=>br (Zf (w900001.length + [(t108,GValue.mk t115.kind t115.text t115.number t115.list t115.cases)].length) τ12) (self (IntKind.i64.wrap (s105+(1:Int))) (w900001 ++ [(t108,GValue.mk t115.kind t115.text t115.number t115.list t115.cases)])) none) (k2 w900001)
def c8j(N:Nat)(c6:ρ2)(c103:List d3)(c104:Int)(cw105100:List GValue)(k2:ρ5):Nat->Int->τ25->Option (GValue×τb)|0,_,_=>none|n+1,s105,w900001=>a80 N c6 c103 c104 cw105100 k2 (c8j N c6 c103 c104 cw105100 k2 n) s105 w900001
def o7(N:Nat)(c6:ρ2)(x2:GExpr)(y0_0:d3)(y0_1:d3)(y0_2:List R2)(y0_3:List τ7)(y0_4:Int)(y0_5:Int)(y0_6:Int)(y1_0:Option Unit)(m2:τ43)(m3:List τ4)(m4:List (τa)):Option (GValue×τb):=br (x2.kind==(1:Int)) (some (GValue.mk (1:Int) x2.text (0:Int) ([]:List d3) ([]:List τ9),(0:Int),y0_0,y0_1,y0_2,y0_3,y0_4,y0_5,y0_6,y1_0,m2,m3,m4)) (br (x2.kind==(2:Int)) (some (GValue.mk (2:Int) ([]:d3) x2.number ([]:List d3) ([]:List τ9),(0:Int),y0_0,y0_1,y0_2,y0_3,y0_4,y0_5,y0_6,y1_0,m2,m3,m4)) (br (x2.kind==(3:Int)) none (k8 (C5 N c6 x2.kids y0_0 y0_1 y0_2 y0_3 y0_4 y0_5 y0_6 y1_0 m2 m3 m4) fun t51=>br (t51.1 !=(0:Int)) (some (GValue.mk (0:Int) ([]:d3) (0:Int) ([]:List d3) ([]:List τ9),t51.1,t51.2.1,t51.2.2.1,t51.2.2.2.1,t51.2.2.2.2.1,t51.2.2.2.2.2.1,t51.2.2.2.2.2.2.1,t51.2.2.2.2.2.2.2.1,t51.2.2.2.2.2.2.2.2.1,t51.2.2.2.2.2.2.2.2.2.1,t51.2.2.2.2.2.2.2.2.2.2.1,t51.2.2.2.2.2.2.2.2.2.2.2.1)) (br (x2.kind==(4:Int)) (k8 (a2f N t51.2.2.2.2.2.2.2.2.2.2.2.2) fun t63=>some (GValue.mk t63.1.kind t63.1.text t63.1.number t63.1.list t63.1.cases,t63.2,t51.2.1,t51.2.2.1,t51.2.2.2.1,t51.2.2.2.2.1,t51.2.2.2.2.2.1,t51.2.2.2.2.2.2.1,t51.2.2.2.2.2.2.2.1,t51.2.2.2.2.2.2.2.2.1,t51.2.2.2.2.2.2.2.2.2.1,t51.2.2.2.2.2.2.2.2.2.2.1,t51.2.2.2.2.2.2.2.2.2.2.2.1)) (br (x2.kind==(5:Int)) (k8 (n8 t51.2.2.2.2.2.2.2.2.2.2.2.2 (0:Int)) fun _=>k8 (n8 t51.2.2.2.2.2.2.2.2.2.2.2.2 (1:Int)) fun _=>none) (br (x2.kind==(7:Int)) (k8 (n8 t51.2.2.2.2.2.2.2.2.2.2.2.2 (0:Int)) fun _=>k8 (n8 t51.2.2.2.2.2.2.2.2.2.2.2.2 (1:Int)) fun _=>none) (br (x2.kind==(8:Int)) (k8 (n8 t51.2.2.2.2.2.2.2.2.2.2.2.2 (0:Int)) fun _=>k8 (n8 t51.2.2.2.2.2.2.2.2.2.2.2.2 (1:Int)) fun _=>none) (c8j N c6 x2.keys (x2.keys.length:Int) t51.2.2.2.2.2.2.2.2.2.2.2.2 (fun o0_w900001=>some (GValue.mk (4:Int) ([]:d3) (0:Int) ([]:List d3) o0_w900001,(0:Int),t51.2.1,t51.2.2.1,t51.2.2.2.1,t51.2.2.2.2.1,t51.2.2.2.2.2.1,t51.2.2.2.2.2.2.1,t51.2.2.2.2.2.2.2.1,t51.2.2.2.2.2.2.2.2.1,t51.2.2.2.2.2.2.2.2.2.1,t51.2.2.2.2.2.2.2.2.2.2.1,t51.2.2.2.2.2.2.2.2.2.2.2.1)) N (0:Int) ([]:List τ9)))))))))
abbrev f3o:=E3 [.box 0 0,.box 1 0,.v O1] [.cells [.v .str,.v .str,.v τ17,.v τ10,.v τ3,.v τ3,.v τ3,.mref 2,.mref 3],.cells [.v τ41,.mref 4,.nilS],.map τ5,.map τ6,.map τ8] [.v τ18,.v τ3] [.cells [.v .str,.v .str,.v τ17,.v τ10,.v τ3,.v τ3,.v τ3,.mref 2,.mref 3],.cells [.v τ41,.mref 4,.nilS],.map τ5,.map τ6,.map τ8] (GValue×τb) fun z=>((z.1,z.2.1,()),(z.2.2.1,z.2.2.2.1,z.2.2.2.2.1,z.2.2.2.2.2.1,z.2.2.2.2.2.2.1,z.2.2.2.2.2.2.2.1,z.2.2.2.2.2.2.2.2.1,(),(),()),(z.2.2.2.2.2.2.2.2.2.1,(),(),()),z.2.2.2.2.2.2.2.2.2.2.1,z.2.2.2.2.2.2.2.2.2.2.2.1,z.2.2.2.2.2.2.2.2.2.2.2.2,())
noncomputable abbrev e2w(N:Nat)(c6:ρ2):AF:=f3o fun x y=>let z:=y.1.2.2.2;o7 N c6 x.2.2.1 y.1.1 y.1.2.1 y.1.2.2.1 z.1 z.2.1 z.2.2.1 z.2.2.2.1 y.2.1.1 y.2.2.1 y.2.2.2.1 y.2.2.2.2.1
abbrev e4T:SV [.v τ18,.v τ3]->BV [.cells [.v .str,.v .str,.v τ17,.v τ10,.v τ3,.v τ3,.v τ3,.mref 2,.mref 3],.cells [.v τ41,.mref 4,.nilS],.map τ5,.map τ6,.map τ8]->(GValue×τb):=fun x y=>let z:=y.1.2.2.2;(x.1,x.2.1,y.1.1,y.1.2.1,y.1.2.2.1,z.1,z.2.1,z.2.2.1,z.2.2.2.1,y.2.1.1,y.2.2.1,y.2.2.2.1,y.2.2.2.2.1)
def d8t(N:Nat)(c6:ρ2):FuncId->Option Tmp->Option AF:=fun f _=>P0 [(204,e2u N c6),(205,c7w N)] f
theorem d8u(N:Nat)(c6:ρ2)(w7:Sound Tryz.prog GW x6 75 (a9Z fun x y=>let z:=y.1.2.2.2;c6 x.2.2.1 y.1.1 y.1.2.1 y.1.2.2.1 z.1 z.2.1 z.2.2.1 z.2.2.2.1 y.2.1.1 y.2.2.1 y.2.2.2.1 y.2.2.2.2.1)):∀f q F,d8t N c6 f q=some F->Sound Tryz.prog GW x6 f F:=fun _ _ _ h=>r9 h (u4 (d8r N c6 w7) (u4 (d1o N) F1))
def f3n:Nat->Hint:=fun i=>
 match i with
 |2=>⟨[],[6,10,13,103,104,105],[0,1,2,3,4,1006,1013,105100,900001],[6,13],[0,1,2,3,4,1006,1013,900001],[(1013,4,900001,82,τ12)]⟩
 |100020=>⟨[105100],[],[],[],[],[]⟩
 |100022=>⟨[105100],[],[],[],[],[]⟩
 |100025=>⟨[105100],[],[],[],[],[]⟩
 |100032=>⟨[1013,105100,900001],[],[],[],[],[]⟩
 |_=>o5
abbrev e2v(N:Nat)(c6:ρ2):Env:=M5 f3n (d8t N c6) (fun _=>false) (fun _=>false)
noncomputable abbrev f7b(N:Nat)(c6:ρ2):=B4 (e2v N c6) Tryz.f148 (e2w N c6) e4T
noncomputable abbrev f3m:Code:=P9 (m8 Tryz.f148) [true,true,true,true,true,true,false,true,false,false]
abbrev d8s:List (Nat×Sl):=[(6,.box 1006 0),(10,.row 105100),(13,.box 1013 0),(103,.v τ21),(104,.v τ3),(105,.v τ3)]
abbrev c3E:List (Nat×Sb):=[(0,.cells [.v .str,.v .str,.v τ17,.v τ10,.v τ3,.v τ3,.v τ3,.mref 2,.mref 3]),(1,.cells [.v τ41,.mref 4,.nilS]),(2,.map τ5),(3,.map τ6),(4,.map τ8),(1006,.cells [.v τ3,.v .str,.v τ3,.nilS,.nilS]),(1013,.cells [.v τ3,.v .str,.v τ3,.nilS,.row 900001]),(105100,.row 54 τ18 false),(900001,.row 82 τ12 false)]
def b8e(y:HV c3E):St:=⟨123,[(6,.box 1006 0),(13,.box 1013 0)],[(0,.cells [.v .str y.1.1,.v .str y.1.2.1,.v τ17 y.1.2.2.1,.v τ10 y.1.2.2.2.1,.v τ3 y.1.2.2.2.2.1,.v τ3 y.1.2.2.2.2.2.1,.v τ3 y.1.2.2.2.2.2.2.1,.mref 2,.mref 3]),(1,.cells [.v τ41 y.2.1.1,.mref 4,.nilS]),(2,.map τ5 y.2.2.1),(3,.map τ6 y.2.2.2.1),(4,.map τ8 y.2.2.2.2.1),(1006,.cells [.v τ3 y.2.2.2.2.2.1.1,.v .str y.2.2.2.2.2.1.2.1,.v τ3 y.2.2.2.2.2.1.2.2.1,.nilS,.nilS]),(1013,.cells [.v τ3 y.2.2.2.2.2.2.1.1,.v .str y.2.2.2.2.2.2.1.2.1,.v τ3 y.2.2.2.2.2.2.1.2.2.1,.nilS,.row 900001]),(900001,.row 82 τ12 false y.2.2.2.2.2.2.2.2.1)]⟩
def c8k(N:Nat)(c6:ρ2):T9 ((GValue×τb)) d8s c3E:=fun K n x y=>c8j N c6 x.2.2.2.1 x.2.2.2.2.1 y.2.2.2.2.2.2.2.1 (fun o0_w900001=>K 2 (b8e (y.1,y.2.1,y.2.2.1,y.2.2.2.1,y.2.2.2.2.1,y.2.2.2.2.2.1,y.2.2.2.2.2.2.1,y.2.2.2.2.2.2.2.1,o0_w900001,y.2.2.2.2.2.2.2.2.2))) n x.2.2.2.2.2.1 y.2.2.2.2.2.2.2.2.1
noncomputable def e4S(N:Nat)(c6:ρ2):Nat->Code->St->(Ex->St->Option (GValue×τb))->Option (GValue×τb):=fun i c=>
 match i with
 |2=>U4 (e2v N c6) N 123 (c8k N c6) 2 c
 |i=>LpD (e2v N c6) N i c
theorem e85(N:Nat)(c6:ρ2):B2 (e4S N c6) (e2v N c6) N (f7b N c6) 2 f3m:=
 o0 (c8k N c6) (fun K f x y=>a80 N c6 x.2.2.2.1 x.2.2.2.2.1 y.2.2.2.2.2.2.2.1 (fun o0_w900001=>K 2 (b8e (y.1,y.2.1,y.2.2.1,y.2.2.2.1,y.2.2.2.2.1,y.2.2.2.2.2.1,y.2.2.2.2.2.2.1,y.2.2.2.2.2.2.2.1,o0_w900001,y.2.2.2.2.2.2.2.2.2))) (fun s105 w900001=>f (x.1,x.2.1,x.2.2.1,x.2.2.2.1,x.2.2.2.2.1,s105,x.2.2.2.2.2.2) (y.1,y.2.1,y.2.2.1,y.2.2.2.1,y.2.2.2.2.1,y.2.2.2.2.2.1,y.2.2.2.2.2.2.1,y.2.2.2.2.2.2.2.1,w900001,y.2.2.2.2.2.2.2.2.2)) x.2.2.2.2.2.1 y.2.2.2.2.2.2.2.2.1)
theorem d8v(N:Nat)(c6:ρ2)(w7:Sound Tryz.prog GW x6 75 (a9Z fun x y=>let z:=y.1.2.2.2;c6 x.2.2.1 y.1.1 y.1.2.1 y.1.2.2.1 z.1 z.2.1 z.2.2.1 z.2.2.2.1 y.2.1.1 y.2.2.1 y.2.2.2.1 y.2.2.2.2.1)):Sound Tryz.prog GW x6 148 (e2w N c6):=
 a0l (t6 f3n (d8t N c6) _ _ (d8u N c6 w7)) Tryz.func148 Tryz.call148 (e2w N c6) e4T N (e4S N c6) (P5 (e85 N c6) U6)
def s0(N:Nat)(c6:ρ2)(x2:GExpr)(y0_0:d3)(y0_1:d3)(y0_2:List R2)(y0_3:List τ7)(y0_4:Int)(y0_5:Int)(y0_6:Int)(y1_0:Option Unit)(m2:τ43)(m3:List τ4)(m4:List (τa)):Option (GValue×τb):=k8 (E9 N y0_0 y0_1 y0_2 y0_3 y0_4 y0_5 y0_6 m2 m3) fun t12=>br (t12.1 !=(0:Int)) (some (GValue.mk (0:Int) ([]:d3) (0:Int) ([]:List d3) ([]:List τ9),t12.1,t12.2.1,t12.2.2.1,t12.2.2.2.1,t12.2.2.2.2.1,t12.2.2.2.2.2.1,t12.2.2.2.2.2.2.1,t12.2.2.2.2.2.2.2.1,y1_0,t12.2.2.2.2.2.2.2.2.1,t12.2.2.2.2.2.2.2.2.2,m4)) (k8 (o7 N c6 (Ze x2) t12.2.1 t12.2.2.1 t12.2.2.2.1 t12.2.2.2.2.1 t12.2.2.2.2.2.1 t12.2.2.2.2.2.2.1 t12.2.2.2.2.2.2.2.1 y1_0 t12.2.2.2.2.2.2.2.2.1 t12.2.2.2.2.2.2.2.2.2 m4) fun t21=>br (t21.2.1==(0:Int)) (k8 (D1 N (C4 N N) (GValue.mk t21.1.kind t21.1.text t21.1.number t21.1.list t21.1.cases)) fun t27=>br (t27 !=(0:Int)) (some (GValue.mk (0:Int) ([]:d3) (0:Int) ([]:List d3) ([]:List τ9),t27,t21.2.2)) (some (GValue.mk t21.1.kind t21.1.text t21.1.number t21.1.list t21.1.cases,(0:Int),t21.2.2))) (br (t21.2.1 !=(0:Int)) (some (GValue.mk (0:Int) ([]:d3) (0:Int) ([]:List d3) ([]:List τ9),t21.2)) (some (GValue.mk t21.1.kind t21.1.text t21.1.number t21.1.list t21.1.cases,(0:Int),t21.2.2))))
abbrev f2S:=E3 [.box 0 0,.box 1 0,.v O1] [.cells [.v .str,.v .str,.v τ17,.v τ10,.v τ3,.v τ3,.v τ3,.mref 2,.mref 3],.cells [.v τ41,.mref 4,.nilS],.map τ5,.map τ6,.map τ8] [.v τ18,.v τ3] [.cells [.v .str,.v .str,.v τ17,.v τ10,.v τ3,.v τ3,.v τ3,.mref 2,.mref 3],.cells [.v τ41,.mref 4,.nilS],.map τ5,.map τ6,.map τ8] (GValue×τb) fun z=>((z.1,z.2.1,()),(z.2.2.1,z.2.2.2.1,z.2.2.2.2.1,z.2.2.2.2.2.1,z.2.2.2.2.2.2.1,z.2.2.2.2.2.2.2.1,z.2.2.2.2.2.2.2.2.1,(),(),()),(z.2.2.2.2.2.2.2.2.2.1,(),(),()),z.2.2.2.2.2.2.2.2.2.2.1,z.2.2.2.2.2.2.2.2.2.2.2.1,z.2.2.2.2.2.2.2.2.2.2.2.2,())
noncomputable abbrev f2Q(N:Nat)(c6:ρ2):AF:=f2S fun x y=>let z:=y.1.2.2.2;s0 N c6 x.2.2.1 y.1.1 y.1.2.1 y.1.2.2.1 z.1 z.2.1 z.2.2.1 z.2.2.2.1 y.2.1.1 y.2.2.1 y.2.2.2.1 y.2.2.2.2.1
def d70(N:Nat)(c6:ρ2):FuncId->Option Tmp->Option AF:=fun f _=>P0 [(39,e2Q N),(52,e0b fun x _=>D1 N (C4 N N) x.1),(148,e2w N c6)] f
theorem d71(N:Nat)(c6:ρ2)(w7:Sound Tryz.prog GW x6 75 (a9Z fun x y=>let z:=y.1.2.2.2;c6 x.2.2.1 y.1.1 y.1.2.1 y.1.2.2.1 z.1 z.2.1 z.2.2.1 z.2.2.2.1 y.2.1.1 y.2.2.1 y.2.2.2.1 y.2.2.2.2.1)):∀f q F,d70 N c6 f q=some F->Sound Tryz.prog GW x6 f F:=fun _ _ _ h=>r9 h (u4 (c3P N) (u4 (b5G N (C4 N N) (b5H N N)) (u4 (d8v N c6 w7) F1)))
def f2R:Nat->Hint:=fun i=>
 match i with
 |_=>o5
abbrev f6W(N:Nat)(c6:ρ2):Env:=M5 f2R (d70 N c6) (fun _=>false) (fun _=>false)
theorem d72(N:Nat)(c6:ρ2)(w7:Sound Tryz.prog GW x6 75 (a9Z fun x y=>let z:=y.1.2.2.2;c6 x.2.2.1 y.1.1 y.1.2.1 y.1.2.2.1 z.1 z.2.1 z.2.2.1 z.2.2.2.1 y.2.1.1 y.2.2.1 y.2.2.2.1 y.2.2.2.2.1)):Sound Tryz.prog GW x6 75 (f2Q N c6):=
 T5 (f6W N c6) (t6 f2R (d70 N c6) _ _ (d71 N c6 w7)) Tryz.func75 Tryz.call75 (f2Q N c6) (fun x y=>let z:=y.1.2.2.2;(x.1,x.2.1,y.1.1,y.1.2.1,y.1.2.2.1,z.1,z.2.1,z.2.2.1,z.2.2.2.1,y.2.1.1,y.2.2.1,y.2.2.2.1,y.2.2.2.2.1)) N
def l9(N:Nat):Nat->GExpr->d3->d3->τ40->τ45->Int->Int->Int->τ32->Y7->Y8->(List (τa))->Option (GValue×τb)|0=>fun _ _ _ _ _ _ _ _ _ _ _ _=>none|d+1=>s0 N (l9 N d)
theorem b5t(N:Nat):∀d,Sound Tryz.prog GW x6 75 (a9Z fun x y=>let z:=y.1.2.2.2;l9 N d x.2.2.1 y.1.1 y.1.2.1 y.1.2.2.1 z.1 z.2.1 z.2.2.1 z.2.2.2.1 y.2.1.1 y.2.2.1 y.2.2.2.1 y.2.2.2.2.1)
 |0=>Sound.never Tryz.call75 (fun _ _=>rfl)
 |d+1=>d72 N (l9 N d) (b5t N d)
def S3(_N:Nat)(x0:List τ9):Option τ25:=br ((x0).isEmpty) (q7 (some ([]:List τ9)) (br (Zf (([]:List τ9).length+x0.length) τ12) (some (([]:List τ9)++x0)) none)) (br (Zf (([]:List τ9).length+x0.length) τ12) (some (([]:List τ9)++x0)) none)
abbrev f3f(f:SV [.v τ31]->BV []->Option τ25):AF:={ps:=[.v τ31],bs:=[],rs:=[.row 0],cs:=[.row 82 τ12 true],R:=List τ9,out:=fun z=>(((),()),z,()),f:=f}
noncomputable abbrev e82(N:Nat):AF:=f3f fun x _=>S3 N x.1
def d8i(_N:Nat):FuncId->Option Tmp->Option AF:=fun f _=>P0 [] f
theorem d8j(N:Nat):H5 (d8i N):=fun _ _ _ h=>r9 h F1
def f3e:Nat->Hint:=fun i=>
 match i with
 |_=>o5
abbrev f7a(N:Nat):Env:=M5 f3e (d8i N) (fun i=>match i with|2=>true|5=>true|_=>false) (fun _=>false)
theorem d8k(N:Nat):I6 242 (e82 N):=
 T5 (f7a N) (t6 f3e (d8i N) _ _ (d8j N)) Tryz.func242 Tryz.call242 (e82 N) (fun _ y=>y.1) N
abbrev b5f:=E3 [.v τ18] [] [.v τ18] [] (GValue) fun z=>((z,()),())
end
end
section
open Go
theorem a6L{α:Type}{R:α->α->Prop}(hirr:∀a b,R a b->R b a->False):∀(l1 l2:List α),l1.Perm l2->l1.Pairwise R->l2.Pairwise R->l1=l2
 |[],l2,h,_,_=>(List.nil_perm.1 h).symm
 |a :: l1,[],h,_,_=>by have:=h.length_eq;simp at this
 |a :: l1,b :: l2,h,h1,h2=>by
  have hab:a=b:=by
   apply Classical.byContradiction;intro hne;have ha:a∈b :: l2:=h.subset (List.mem_cons_self ..);have hb:b∈a :: l1:=h.symm.subset (List.mem_cons_self ..);rcases List.mem_cons.1 ha with e|ha
   ·exact hne e
   ·rcases List.mem_cons.1 hb with e|hb
    ·exact hne e.symm
    ·exact hirr a b ((List.pairwise_cons.1 h1).1 b hb) ((List.pairwise_cons.1 h2).1 a ha)
  subst hab;rw[a6L hirr l1 l2 (List.Perm.cons_inv h) (List.pairwise_cons.1 h1).2 (List.pairwise_cons.1 h2).2]
theorem Q8(a:d3):¬a<a:=List.lt_irrefl a
theorem a0M{a b c:d3}(h1:a<b)(h2:b<c):a<c:=List.lt_trans h1 h2
theorem b9v(a b:d3)(h1:¬a<b)(h2:¬b<a):a=b:=List.le_antisymm h2 h1
end
section
open Go
def a4I{α:Type}(key:α->d3)(a b:α):Bool:=decide (key a<=key b)
theorem a6X{α:Type}{key:α->d3}{l:List α}(hn:(l.map key).Nodup)(hs:l.Pairwise fun a b=>¬key b<key a):l.Pairwise fun a b=>key a<key b:=by
 induction l with
 |nil=>exact List.Pairwise.nil
 |cons a l ih=>
  rw[List.map_cons,List.nodup_cons]at hn;obtain⟨h1,h2⟩:=List.pairwise_cons.1 hs;refine List.pairwise_cons.2 ⟨fun b hb=>?_,ih hn.2 h2⟩;apply Classical.byContradiction;intro hlt;have:=b9v _ _ hlt (h1 b hb);exact hn.1 (this▸List.mem_map.2 ⟨b,hb,rfl⟩)
theorem b5X{α:Type}(key:α->d3)(l:List α):(l.mergeSort (a4I key)).Pairwise fun a b=>¬key b<key a:=by
 have:=List.pairwise_mergeSort (le:=a4I key) (fun a b c h1 h2=>by
  simp only[a4I,decide_eq_true_eq]at *;exact List.le_trans h1 h2) (fun a b=>by
  simp only[a4I,Bool.or_eq_true,decide_eq_true_eq];exact List.le_total _ _) l
 exact this.imp fun h=>by simpa [a4I]using h
theorem a9L{α:Type}{key:α->d3}{l d:List α}(hn:(l.map key).Nodup)(hp:d.Perm l)(hs:d.Pairwise fun a b=>¬key b<key a):d=l.mergeSort (a4I key):=by
 have hp2:d.Perm (l.mergeSort (a4I key)):=hp.trans (List.mergeSort_perm l (a4I key)).symm;have hn1:(d.map key).Nodup:=(hp.map _).nodup_iff.2 hn;have hn2:((l.mergeSort (a4I key)).map key).Nodup:=((List.mergeSort_perm l (a4I key)).map _).nodup_iff.2 hn;exact a6L (R:=fun a b=>key a<key b) (fun a b h1 h2=>Q8 _ (a0M h1 h2)) d _ hp2 (a6X hn1 hs) (a6X hn2 (b5X key l))
theorem c9t{α β:Type}(f:α->β){d m:List β}(h:d.Perm m):∀{l:List α},l.map f=m->∃l':List α,l'.Perm l/\l'.map f=d:=by
 induction h with
 |nil=>intro l e;exact⟨[],by rw[List.map_eq_nil_iff.1 e],rfl⟩
 |cons x _ ih=>
  intro l e;cases l with
  |nil=>cases e
  |cons a l=>
   injection e with e1 e2
   obtain⟨l',h1,h2⟩:=ih e2;exact⟨a :: l',h1.cons a,by rw[List.map_cons,h2,e1]⟩
 |swap x y r=>
  intro l e
  match l,e with
  |a :: b :: l,e=>
   injection e with e1 e2
   injection e2 with e2 e3
   exact⟨b :: a :: l,List.Perm.swap ..,by rw[List.map_cons,List.map_cons,e1,e2,e3]⟩
 |trans _ _ ih1 ih2=>
  intro l e;obtain⟨l2,h1,h2⟩:=ih2 e;obtain⟨l1,h3,h4⟩:=ih1 h2;exact⟨l1,h3.trans h1,h4⟩
theorem All2.zip{α β:Type}{R:α->β->Prop}:∀{l:List α} {m:List β},All2 R l m->(l.zip m).map (·.1)=l/\(l.zip m).map (·.2)=m/\∀p∈l.zip m,R p.1 p.2
 |[],[],_=>⟨rfl,rfl,fun p h=>by cases h⟩
 |a :: l,b :: m,h=>by
  obtain⟨h1,h2,h3⟩:=All2.zip h.2;refine⟨by rw[List.zip_cons_cons,List.map_cons,h1],by rw[List.zip_cons_cons,List.map_cons,h2],fun p hp=>?_⟩;rcases List.mem_cons.1 hp with rfl|hp
  ·exact h.1
  ·exact h3 p hp
 |[],_ :: _,h=>h.elim
 |_ :: _,[],h=>h.elim
theorem All2.of_pairs{α β:Type}{R:α->β->Prop}:∀{l:List (α×β)},(∀p∈l,R p.1 p.2)->All2 R (l.map (·.1)) (l.map (·.2))
 |[],_=>trivial
 |p :: l,h=>⟨h p (List.mem_cons_self ..),All2.of_pairs fun q hq=>h q (List.mem_cons_of_mem _ hq)⟩
theorem d4I{α γ:Type}{key:α->d3}{key':γ->d3}{R:α->γ->Prop}{xs:List α}{cs d:List γ}(h:All2 R xs cs)(hk:∀x c,R x c->key' c=key x)(hn:(xs.map key).Nodup)(hp:d.Perm cs)
  (hs:d.Pairwise fun a b=>¬key' b<key' a):All2 R (xs.mergeSort (a4I key)) d:=by
 obtain⟨h1,h2,h3⟩:=h.zip;obtain⟨qs,hq,rfl⟩:=c9t (fun p:α×γ=>p.2) hp h2;have hR:∀p∈qs,R p.1 p.2:=fun p hp=>h3 p (hq.subset hp)
 have e:qs.map (·.1)=xs.mergeSort (a4I key):=by
  refine a9L hn ?_ ?_
  ·have:=hq.map (·.1);rw[h1]at this;exact this
  ·rw[List.pairwise_map]at hs ⊢;refine List.Pairwise.imp_of_mem (fun{a b} ha hb hlt=>?_) hs;rw[<-hk _ _ (hR a ha),<-hk _ _ (hR b hb)];exact hlt
 rw[<-e];exact All2.of_pairs hR
end
end Go.Proofs.YtckdohagilcloaaGreatDoor
namespace Go.Proofs.YtckdohagilcloaaGreatDoor
set_option linter.unusedVariables false
set_option linter.unusedSimpArgs false
open Go Go.RowKit Go.Shelf Go.Sort
def KC(n:Nat):Type:={p:d3×List Value // p.2.length=n/\∀v∈p.2,v.oneCell'=true}
instance(n:Nat):Inhabited (KC n):=⟨⟨([],List.replicate n (.bool false)),by simp,fun v hv=>by rw[List.eq_of_mem_replicate hv];rfl⟩⟩
def a1y{n:Nat}(x:KC n):List Value:= .string ⟨x.1.1.toArray⟩ :: x.1.2
theorem a9l{n:Nat}(x:KC n):(a1y x).length=n+1:=by unfold a1y;rw[List.length_cons,x.2.1]
theorem c0T{n:Nat}(x:KC n):∀v∈a1y x,v.oneCell'=true:=fun v hv=>by
 rcases List.mem_cons.1 hv with rfl|h
 ·rfl
 ·exact x.2.2 v h
theorem a9w:∀(x y:List UInt8),Op.bytesLess x y=decide (x<y)
 |[],[]=>by simp[Op.bytesLess]
 |_ :: _,[]=>by simp[Op.bytesLess]
 |[],_ :: _=>by simp[Op.bytesLess]
 |a :: x,b :: y=>by
  rw[Op.bytesLess,a9w x y];simp only[List.cons_lt_cons_iff];by_cases h1:a<b<;>by_cases h2:a=b<;>by_cases h3:x<y<;>simp[h1,h2,h3]
def cfK{n:Nat}(x y:KC n):Int:=if Op.bytesLess x.1.1 y.1.1=true then -1 else if x.1.1=y.1.1 then 0 else 1
theorem b8Y{n:Nat}(x y:KC n):ltOf cfK x y=decide (x.1.1<y.1.1):=by
 unfold ltOf cfK;rw[a9w];by_cases h:x.1.1<y.1.1
 ·simp[h]
 ·by_cases h2:x.1.1=y.1.1
  ·simp[h2,Q8 y.1.1]
  ·simp[h,h2]
theorem c6P{n:Nat}:Sort.SWO (ltOf (cfK (n:=n))) where
 irrefl x:=by rw[b8Y];exact decide_eq_false (Q8 _)
 trans x y z h1 h2:=by
  rw[b8Y]at *;simp only[decide_eq_true_eq]at *;exact a0M h1 h2
 ntrans x y z h1 h2:=by
  rw[b8Y]at *;simp only[decide_eq_false_iff_not]at *;exact fun h=>absurd (List.le_trans (List.not_lt.1 h2) (List.not_lt.1 h1)) (List.not_le.2 h)
theorem b3f{n:Nat}{ks:List (KC n)}:∀t,t<ks.length*(n+1)->(flatK a1y (n+1) ks.toArray).toList[t]? = (a1y (ks[t / (n+1)]?.getD default))[t % (n+1)]?:=fun t ht=>by
 have hs:t<(flatK a1y (n+1) ks.toArray).size:=by rw[size_flatK];simpa using ht
 have hi:t / (n+1)<ks.length:=Nat.div_lt_of_lt_mul (by rw[Nat.mul_comm];exact ht);have h2:t % (n+1)<n+1:=Nat.mod_lt _ (Nat.zero_lt_succ n);rw[Array.getElem?_toList,Array.getElem?_eq_getElem hs,<-getElem!_pos _ t hs,get_flatK _ _ _ _ (by simpa using ht)];rw[List.getElem?_eq_getElem hi];have e1:ks.toArray[t / (n+1)]! = ks[t / (n+1)]:=by simp[hi]
 rw[e1];have hl:t % (n+1)<(a1y ks[t / (n+1)]).length:=by rw[a9l];exact h2
 rw[getElem!_pos (a1y ks[t / (n+1)]) (t % (n+1)) hl,Option.getD_some,List.getElem?_eq_getElem hl]
theorem c9b{n:Nat}(ks:List (KC n)){i:Nat}(h:i<ks.length):((flatK a1y (n+1) ks.toArray).toList.drop (i*(n+1))).take (n+1)=a1y ks[i]:=by
 apply List.ext_getElem?;intro t;rw[List.getElem?_take];by_cases ht:t<n+1
 ·have hlt:i*(n+1)+t<ks.length*(n+1):=by
   have:(i+1)*(n+1)<=ks.length*(n+1):=Nat.mul_le_mul_right _ h;rw[Nat.succ_mul]at this;omega
  rw[if_pos ht,List.getElem?_drop,b3f _ hlt];have e1:(i*(n+1)+t) / (n+1)=i:=by rw[Nat.mul_comm,Nat.mul_add_div (Nat.zero_lt_succ n),Nat.div_eq_of_lt ht,Nat.add_zero]
  have e2:(i*(n+1)+t) % (n+1)=t:=by rw[Nat.mul_comm,Nat.mul_add_mod,Nat.mod_eq_of_lt ht]
  rw[e1,e2,List.getElem?_eq_getElem h,Option.getD_some]
 ·rw[if_neg ht,List.getElem?_eq_none (by rw[a9l];omega)]
def c4i(M:Nat->Nat->Prop)(w:World)(t:Ty)(x:d3×t.den)(c:KC t.sz):Prop:=c.1.1=x.1/\RepC M w t x.2 c.1.2
theorem c88{M:Nat->Nat->Prop}{w:World}{t:Ty}:∀{xs:List (d3×t.den)} {cs:List Value},cs.length=xs.length*(t.sz+1)->Els M w (.pr .str t) xs cs->∃ks:List (KC t.sz),All2 (c4i M w t) xs ks/\cs=(flatK a1y (t.sz+1) ks.toArray).toList:=by
 intro xs cs hl h;have h1:∀i (hi:i<xs.length),∃c:KC t.sz,c4i M w t xs[i] c/\(cs.drop (i*(t.sz+1))).take (t.sz+1)=a1y c:=fun i hi=>by
  have h2:=h i hi;have hsz:(Ty.pr .str t).sz=t.sz+1:=by show 1+t.sz=_;omega
  rw[hsz]at h2;obtain⟨c1,c2,e,h3,h4⟩:=h2;rw[show c1=[Value.string ⟨xs[i].1.toArray⟩]from h3]at e;exact⟨⟨(xs[i].1,c2),RepC.len t _ _ h4,RepC.one t _ _ h4⟩,⟨rfl,h4⟩,e⟩
 let ks:List (KC t.sz):=(List.range xs.length).map fun i=>if hi:i<xs.length then(h1 i hi).choose else default
 have hkl:ks.length=xs.length:=by simp[ks]
 have hk:∀i (hi:i<xs.length),ks[i]'(by rw[hkl];exact hi)=(h1 i hi).choose:=fun i hi=>by simp[ks,hi]
 refine⟨ks,?_,?_⟩
 ·have gen:∀(l:List (d3×t.den)) (m:List (KC t.sz)),l.length=m.length->(∀i (hi:i<l.length) (hj:i<m.length),c4i M w t l[i] m[i])->All2 (c4i M w t) l m:=by
   intro l;induction l with
   |nil=>intro m hm _;cases m with|nil=>trivial|cons _ _=>cases hm
   |cons a l ih=>
    intro m hm hr;cases m with
    |nil=>cases hm
    |cons b m=>exact⟨hr 0 (by simp) (by simp),ih m (by simpa using hm) fun i hi hj=>hr (i+1) (Nat.succ_lt_succ hi) (Nat.succ_lt_succ hj)⟩
  refine gen xs ks hkl.symm fun i hi hj=>?_
  rw[hk i hi];exact(h1 i hi).choose_spec.1
 ·apply List.ext_getElem?;intro u;by_cases hu:u<xs.length*(t.sz+1)
  ·have hi:u / (t.sz+1)<xs.length:=Nat.div_lt_of_lt_mul (by rw[Nat.mul_comm];exact hu);rw[b3f u (by rw[hkl];exact hu),List.getElem?_eq_getElem (l:=ks) (i:=u / (t.sz+1)) (by rw[hkl];exact hi),Option.getD_some,hk _ hi,<-(h1 _ hi).choose_spec.2,List.getElem?_take,if_pos (Nat.mod_lt _ (Nat.zero_lt_succ _)),List.getElem?_drop];congr 1;rw[Nat.mul_comm];exact(Nat.div_add_mod u (t.sz+1)).symm
  ·rw[List.getElem?_eq_none (by omega),List.getElem?_eq_none (by rw[Array.length_toList,size_flatK];simp only[List.size_toArray];rw[hkl];omega)]
theorem d3v{M:Nat->Nat->Prop}{w:World}{t:Ty}{xs:List (d3×t.den)}{ks:List (KC t.sz)}(h:All2 (c4i M w t) xs ks):Els M w (.pr .str t) xs (flatK a1y (t.sz+1) ks.toArray).toList:=fun i hi=>by
 have hsz:(Ty.pr .str t).sz=t.sz+1:=by show 1+t.sz=_;omega
 rw[hsz];have hik:i<ks.length:=by rw[<-h.len];exact hi
 rw[c9b ks hik];obtain⟨c,hc,h1,h2⟩:=h.get (List.getElem?_eq_getElem hi);rw[List.getElem?_eq_getElem hik]at hc;injection hc with hc
 rw[hc];exact⟨[Value.string ⟨xs[i].1.toArray⟩],c.1.2,by unfold a1y;rw[h1];rfl,rfl,h2⟩
def b1N{α:Type}(key:α->d3)(xs:List α):Option (List α):=if xs.length<4611686018427387904/\(xs.map key).Nodup then some (xs.mergeSort (a4I key))else none
theorem b1O{P:Program}{G:World->Prop}{B0:Nat}{f g:FuncId}{e:TypeId}{t:Ty}(hcall:∀(args:Array Value) (w:World),(callFunc f args).run P w = .ok (.enter f args) w)
  (hB:∀(b cap:Nat) (d:Array (KC t.sz)) (w:World),HoldsK a1y (t.sz+1) w b 0 d->b<w.heap.size->d.size<4611686018427387904->Calls P f #[.slice (some ⟨b,0,none⟩) d.size cap,.func (.func g) #[] #[]] w fun e w'=>
   e = .returned (.tuple #[])/\∃d' m os,PermIn 0 d.size d d'/\SortedIn (ltOf cfK) 0 d.size d'/\w'=sortWorldK a1y (t.sz+1) w b 0 m d' os)
  (h0:∀w,Calls P f #[.slice none 0 0,.func (.func g) #[] #[]] w fun e w'=>e = .returned (.tuple #[])/\w'=w):
  Sound P G B0 f ⟨[.row 0,.v (.clo g .un)],[.row e (.pr .str t) true],[],[.row e (.pr .str t) true,.none],List (d3×t.den),fun z=>((),z,(),()),fun x y=>b1N (fun p:d3×t.den=>p.1) y.1⟩:=by
 have hsz:(Ty.pr .str t).sz=t.sz+1:=by show 1+t.sz=_;omega
 refine Sound.ofRowKept (ps:=[.v (.clo g .un)]) (t:= .pr .str t) (F:=fun x xs=>b1N (fun p:d3×t.den=>p.1) xs) hcall (by rw[hsz];omega) fun M w g' v0 vs x xs zs cs hG hMl hM hown hels hA hz=>?_
 match vs,hA with
 |[v1],hA=>
  obtain⟨h1,_⟩:=hA;have h3:=RepV.plain (t:= .clo g .un) rfl h1;obtain⟨caps,h4,h5⟩:=h3;injection h4 with h4
  have h6:caps = #[]:=by
   have:caps.toList=[]:=h5;exact Array.toList_eq_nil_iff.1 this
  subst h6;rw[h4];change b1N (fun p:d3×t.den=>p.1) xs=some zs at hz;unfold b1N at hz;split at hz
  case isFalse=>cases hz
  rename_i hc;obtain⟨hbig,hnd⟩:=hc;injection hz with hz
  have hl:cs.length=xs.length*(t.sz+1):=by have:=hown.1;rw[hsz]at this;exact this
  obtain⟨ks,hks,hcs⟩:=c88 hl hels;have hkl:ks.length=xs.length:=hks.len.symm;have hzl:zs.length=xs.length:=by rw[<-hz];exact List.length_mergeSort _
  rcases hown.2 with⟨e1,e2⟩|⟨b,cap,cur,e1,_,hg,hle,hmax,hszc,htk⟩
  ·have hx0:xs=[]:=List.eq_nil_of_length_eq_zero e2;subst hx0 e1;refine(h0 w).mono fun e w' hp=>?_
   obtain⟨rfl,rfl⟩:=hp;have hz0:zs=[]:=List.eq_nil_of_length_eq_zero hzl;subst hz0;exact⟨[],rfl,ExtX.refl _ _,⟨by simp,.inl ⟨rfl,rfl⟩⟩,fun i h=>absurd h (Nat.not_lt_zero _)⟩
  ·subst e1;rw[hsz]at hszc;have htk':cur.toList.take (xs.length*(t.sz+1))=(flatK a1y (t.sz+1) ks.toArray).toList:=by
    rw[<-hcs,<-htk];rw[hsz]
   have hb:b<w.heap.size:=by
    apply Classical.byContradiction;intro hn;rw[Array.getElem?_eq_none (by omega)]at hg;cases hg
   have hH:HoldsK a1y (t.sz+1) w b 0 ks.toArray:=fun k hk=>by
    have hk':k<xs.length*(t.sz+1):=by rw[size_flatK]at hk;simpa [hkl]using hk
    have h1:cur.toList[k]? = some ((flatK a1y (t.sz+1) ks.toArray)[k]!):=by
     have:=congrArg (fun l=>l[k]?) htk';simp only[List.getElem?_take,hk',if_true,Array.getElem?_toList,Array.getElem?_eq_getElem hk]at this;rw[getElem!_pos _ k hk];simpa using this
    refine⟨?_,by unfold World.frozen?;rw[hg];simp⟩;rw[Nat.zero_add];unfold World.cell?;rw[hg];simpa using h1
   have hcon:=hB b cap ks.toArray w hH hb (by simpa [hkl]using hbig);rw[show ks.toArray.size=xs.length from by simp[hkl]]at hcon;refine hcon.mono fun e w' hp=>?_
   obtain⟨rfl,d',n,os,⟨hps,_,hpp⟩,hso,rfl⟩:=hp;have hps':d'.size=xs.length:=by rw[hps];simp[hkl]
   have hrel:All2 (c4i M w t) zs d'.toList:=by
    rw[<-hz];refine d4I (key:=fun p:d3×t.den=>p.1) (key':=fun c:KC t.sz=>c.1.1) hks (fun x c h=>h.1) hnd ?_ ?_
    ·have e1:(d'.extract 0 xs.length)=d':=by rw[<-hps'];exact Array.extract_size
     have e2:(ks.toArray.extract 0 xs.length)=ks.toArray:=by rw[show xs.length=ks.toArray.size from by simp[hkl]];exact Array.extract_size
     rw[e1,e2]at hpp;simpa using hpp
    ·rw[List.pairwise_iff_getElem];intro i j hi hj hij;have:=hso i j (Nat.zero_le _) hij (by rw[Array.length_toList]at hj;rw[<-hps'];exact hj);rw[b8Y]at this;rw[Array.length_toList]at hi hj;rw[getElem!_pos d' i hi,getElem!_pos d' j hj]at this;simpa using this
   obtain⟨dl,rfl⟩:∃dl:List (KC t.sz),d'=dl.toArray:=⟨d'.toList,by simp⟩;have hrel':All2 (c4i M w t) zs dl:=by simpa using hrel
   have hdl:dl.length=xs.length:=by rw[<-hrel'.len,hzl]
   refine⟨(flatK a1y (t.sz+1) dl.toArray).toList,rfl,(b6U id).mono (fun k hk=>by simpa [Value.ownBlock]using hk),⟨by rw[Array.length_toList,size_flatK,hsz];simp[hdl,hzl],.inr ⟨b,cap,_,by rw[hzl],Nat.zero_le _,b1P id hg,by omega,hmax,?_,?_⟩⟩,d3v hrel'⟩
   ·rw[a4p,hsz];exact hszc
   ·have hle':(flatK a1y (t.sz+1) dl.toArray).toList.length<=cur.size:=by
     rw[Array.length_toList,size_flatK,hszc];simp only[List.size_toArray];rw[hdl];exact Nat.mul_le_mul_right _ hle
    have h9:=a8j id (flatK a1y (t.sz+1) dl.toArray).toList cur hle';rw[Array.length_toList,size_flatK,Array.toArray_toList,List.map_id]at h9;rw[hsz,hzl];simpa [hdl]using h9
end Go.Proofs.YtckdohagilcloaaGreatDoor
namespace Go.Proofs
open Go.Shelf
theorem Fx{α:Type}{a:Option α}{x y:α}(h:a=some x)(e:x=y:=by kernel_rfl):a=some y:=h.trans (congrArg some e)
def Tryz.sortA_ren:Go.Shelf.Ren:=⟨fun|6=>210|15=>42|14=>243|28=>88|29=>89|20=>268|21=>269|22=>270|23=>271|24=>272|25=>273|26=>274|27=>275|46=>297|47=>157|48=>158|49=>298|50=>299|57=>314|n=>n,fun|22=>39|24=>56|25=>283|3=>3|39=>110|0=>0|53=>169|55=>171|4=>4|46=>162|45=>161|50=>166|5=>5|9=>9|66=>228|70=>232|76=>284|77=>285|n=>n,fun|n=>n⟩
theorem Tryz.sortA:Go.Proofs.SlLaysF0.n6 Tryz.prog Tryz.sortA_ren:={
 mixed:=by kernel_rfl
 f6:=⟨Tryz.f210.name,by decide,Fx Tryz.func210⟩
 f14:=⟨Tryz.f243.name,by decide,Fx Tryz.func243⟩
 f15:=Fx Tryz.func42
 f20:=⟨Tryz.f268.name,by decide,Fx Tryz.func268⟩
 f21:=⟨Tryz.f269.name,by decide,Fx Tryz.func269⟩
 f22:=⟨Tryz.f270.name,by decide,Fx Tryz.func270⟩
 f23:=⟨Tryz.f271.name,by decide,Fx Tryz.func271⟩
 f24:=⟨Tryz.f272.name,by decide,Fx Tryz.func272⟩
 f25:=⟨Tryz.f273.name,by decide,Fx Tryz.func273⟩
 f26:=⟨Tryz.f274.name,by decide,Fx Tryz.func274⟩
 f27:=⟨Tryz.f275.name,by decide,Fx Tryz.func275⟩
 f28:=Fx Tryz.func88
 f29:=Fx Tryz.func89
 f46:=⟨Tryz.f297.name,by decide,Fx Tryz.func297⟩
 f47:=Fx Tryz.func157
 f48:=Fx Tryz.func158
 f49:=⟨Tryz.f298.name,by decide,Fx Tryz.func298⟩
 f50:=⟨Tryz.f299.name,by decide,Fx Tryz.func299⟩
 f57:=⟨Tryz.f314.name,by decide,Fx Tryz.func314⟩
 t0:=Tryz.underlying0
 a0:=Tryz.isAgg0
 z0:=Tryz.sizeOf0
 v0:=Tryz.zeroValue0
 t3:=Tryz.underlying3
 a3:=Tryz.isAgg3
 z3:=Tryz.sizeOf3
 v3:=Tryz.zeroValue3
 t4:=Tryz.underlying4
 a4:=Tryz.isAgg4
 z4:=Tryz.sizeOf4
 v4:=Tryz.zeroValue4
 t5:=Tryz.underlying5
 a5:=Tryz.isAgg5
 z5:=Tryz.sizeOf5
 v5:=Tryz.zeroValue5
 t9:=Tryz.underlying9
 a9:=Tryz.isAgg9
 z9:=Tryz.sizeOf9
 v9:=Tryz.zeroValue9
 t22:=Tryz.underlying39
 a22:=Tryz.isAgg39
 z22:=Tryz.sizeOf39
 v22:=Tryz.zeroValue39
 t25:=Tryz.underlying283
 a25:=Tryz.isAgg283
 z25:=Tryz.sizeOf283
 v25:=Tryz.zeroValue283
 t39:=Tryz.underlying110
 a39:=Tryz.isAgg110
 z39:=Tryz.sizeOf110
 v39:=Tryz.zeroValue110
 t45:=Tryz.underlying161
 a45:=Tryz.isAgg161
 z45:=Tryz.sizeOf161
 v45:=Tryz.zeroValue161
 t46:=Tryz.underlying162
 a46:=Tryz.isAgg162
 z46:=Tryz.sizeOf162
 v46:=Tryz.zeroValue162
 t50:=Tryz.underlying166
 a50:=Tryz.isAgg166
 z50:=Tryz.sizeOf166
 v50:=Tryz.zeroValue166
 t53:=Tryz.underlying169
 a53:=Tryz.isAgg169
 z53:=Tryz.sizeOf169
 v53:=Tryz.zeroValue169
 t55:=Tryz.underlying171
 a55:=Tryz.isAgg171
 z55:=Tryz.sizeOf171
 v55:=Tryz.zeroValue171
 t66:=Tryz.underlying228
 a66:=Tryz.isAgg228
 z66:=Tryz.sizeOf228
 v66:=Tryz.zeroValue228
 t70:=Tryz.underlying232
 a70:=Tryz.isAgg232
 z70:=Tryz.sizeOf232
 v70:=Tryz.zeroValue232
 t76:=Tryz.underlying284
 a76:=Tryz.isAgg284
 z76:=Tryz.sizeOf284
 v76:=Tryz.zeroValue284
 t77:=Tryz.underlying285
 a77:=Tryz.isAgg285
 z77:=Tryz.sizeOf285
 v77:=Tryz.zeroValue285}
def Tryz.sortT_ren:Go.Shelf.Ren:=⟨fun|6=>21|15=>42|14=>41|28=>88|29=>89|20=>80|21=>81|22=>82|23=>83|24=>84|25=>85|26=>86|27=>87|46=>156|47=>157|48=>158|49=>159|50=>160|57=>212|n=>n,fun|22=>22|24=>41|25=>77|3=>3|39=>110|0=>0|53=>169|55=>171|4=>4|46=>162|45=>161|50=>166|5=>5|9=>9|66=>228|70=>232|76=>284|77=>285|n=>n,fun|n=>n⟩
theorem Tryz.sortT:Go.Proofs.SlLaysF0.n6 Tryz.prog Tryz.sortT_ren:={
 mixed:=by kernel_rfl
 f6:=⟨Tryz.f21.name,by decide,Fx Tryz.func21⟩
 f14:=⟨Tryz.f41.name,by decide,Fx Tryz.func41⟩
 f15:=Fx Tryz.func42
 f20:=⟨Tryz.f80.name,by decide,Fx Tryz.func80⟩
 f21:=⟨Tryz.f81.name,by decide,Fx Tryz.func81⟩
 f22:=⟨Tryz.f82.name,by decide,Fx Tryz.func82⟩
 f23:=⟨Tryz.f83.name,by decide,Fx Tryz.func83⟩
 f24:=⟨Tryz.f84.name,by decide,Fx Tryz.func84⟩
 f25:=⟨Tryz.f85.name,by decide,Fx Tryz.func85⟩
 f26:=⟨Tryz.f86.name,by decide,Fx Tryz.func86⟩
 f27:=⟨Tryz.f87.name,by decide,Fx Tryz.func87⟩
 f28:=Fx Tryz.func88
 f29:=Fx Tryz.func89
 f46:=⟨Tryz.f156.name,by decide,Fx Tryz.func156⟩
 f47:=Fx Tryz.func157
 f48:=Fx Tryz.func158
 f49:=⟨Tryz.f159.name,by decide,Fx Tryz.func159⟩
 f50:=⟨Tryz.f160.name,by decide,Fx Tryz.func160⟩
 f57:=⟨Tryz.f212.name,by decide,Fx Tryz.func212⟩
 t0:=Tryz.underlying0
 a0:=Tryz.isAgg0
 z0:=Tryz.sizeOf0
 v0:=Tryz.zeroValue0
 t3:=Tryz.underlying3
 a3:=Tryz.isAgg3
 z3:=Tryz.sizeOf3
 v3:=Tryz.zeroValue3
 t4:=Tryz.underlying4
 a4:=Tryz.isAgg4
 z4:=Tryz.sizeOf4
 v4:=Tryz.zeroValue4
 t5:=Tryz.underlying5
 a5:=Tryz.isAgg5
 z5:=Tryz.sizeOf5
 v5:=Tryz.zeroValue5
 t9:=Tryz.underlying9
 a9:=Tryz.isAgg9
 z9:=Tryz.sizeOf9
 v9:=Tryz.zeroValue9
 t22:=Tryz.underlying22
 a22:=Tryz.isAgg22
 z22:=Tryz.sizeOf22
 v22:=Tryz.zeroValue22
 t25:=Tryz.underlying77
 a25:=Tryz.isAgg77
 z25:=Tryz.sizeOf77
 v25:=Tryz.zeroValue77
 t39:=Tryz.underlying110
 a39:=Tryz.isAgg110
 z39:=Tryz.sizeOf110
 v39:=Tryz.zeroValue110
 t45:=Tryz.underlying161
 a45:=Tryz.isAgg161
 z45:=Tryz.sizeOf161
 v45:=Tryz.zeroValue161
 t46:=Tryz.underlying162
 a46:=Tryz.isAgg162
 z46:=Tryz.sizeOf162
 v46:=Tryz.zeroValue162
 t50:=Tryz.underlying166
 a50:=Tryz.isAgg166
 z50:=Tryz.sizeOf166
 v50:=Tryz.zeroValue166
 t53:=Tryz.underlying169
 a53:=Tryz.isAgg169
 z53:=Tryz.sizeOf169
 v53:=Tryz.zeroValue169
 t55:=Tryz.underlying171
 a55:=Tryz.isAgg171
 z55:=Tryz.sizeOf171
 v55:=Tryz.zeroValue171
 t66:=Tryz.underlying228
 a66:=Tryz.isAgg228
 z66:=Tryz.sizeOf228
 v66:=Tryz.zeroValue228
 t70:=Tryz.underlying232
 a70:=Tryz.isAgg232
 z70:=Tryz.sizeOf232
 v70:=Tryz.zeroValue232
 t76:=Tryz.underlying284
 a76:=Tryz.isAgg284
 z76:=Tryz.sizeOf284
 v76:=Tryz.zeroValue284
 t77:=Tryz.underlying285
 a77:=Tryz.isAgg285
 z77:=Tryz.sizeOf285
 v77:=Tryz.zeroValue285}
end Go.Proofs
namespace Go.Proofs.YtckdohagilcloaaGreatDoor
open Go Go.RowKit Go.Shelf Go.Sort
set_option linter.unusedSimpArgs false
set_option linter.unusedVariables false
section
theorem a8E:∀a b:d3,Lib.compareBytes a b=if Op.bytesLess a b=true then -1 else if a=b then 0 else 1
 |[],[]=>by simp[Lib.compareBytes,Op.bytesLess]
 |[],_ :: _=>by simp[Lib.compareBytes,Op.bytesLess]
 |_ :: _,[]=>by simp[Lib.compareBytes,Op.bytesLess]
 |a :: x,b :: y=>by
  rw[Lib.compareBytes,a8E x y,Op.bytesLess];by_cases h1:a<b
  ·simp[h1]
  ·by_cases h2:b<a
   ·have:a≠b:=fun e=>by subst e;exact h1 h2
    simp[h1,h2,this]
   ·have e:a=b:=by
     have h3:=UInt8.le_antisymm (UInt8.not_lt.1 h2) (UInt8.not_lt.1 h1);exact h3
    subst e;simp
theorem b54(x y:KC 5)(W:World):Calls Tryz.prog 211 #[.agg (a1y x).toArray,.agg (a1y y).toArray] W fun e w'=>e = .returned (.int .i64 (cfK x y))/\∃q os',w'=Sort.grow (W.drewN q) os':=by
 obtain⟨⟨xs,xc⟩,hx1,hx2⟩:=x;obtain⟨⟨ys,yc⟩,hy1,hy2⟩:=y
 match xc,hx1,yc,hy1 with
 |[x1,x2,x3,x4,x5],_,[y1,y2,y3,y4,y5],_=>
  have e1:(Value.agg #[.string ⟨xs.toArray⟩,x1,x2,x3,x4,x5]).cells = #[.string ⟨xs.toArray⟩,x1,x2,x3,x4,x5]:=rfl;unfold cfK a1y;dsimp only;rw[<-a8E]
  go_enter Tryz.func211,Tryz.ntmps211
  go_wp2_with fail
  refine(Tryz.strings_Compare _ _ _).mono ?_;rintro e w1 ⟨rfl,rfl⟩
  go_wp2_with fail
  all_goals go_ret
  all_goals exact⟨by simp_all,0,_,by rw[Sort.alloc_eq_grow,Sort.alloc_eq_grow,Sort.grow_grow];rfl⟩
theorem e9Z:∀w,(isAgg 56).run Tryz.prog w = .ok true w:=by
 intro w;kernel_rfl
theorem e6j:∀w,(Go.sizeOf 56).run Tryz.prog w = .ok 6 w:=by
 intro w;kernel_rfl
def N6(_u:Unit)(xs:List τ9):Option τ25:=b1N (fun p:d3×GValue=>p.1) xs
theorem d8L:Sound Tryz.prog GW x6 210 ⟨[.row 0,.v (.clo 211 .un)],[.row 56 τ12 true],[],[.row 56 τ12 true,.none],List τ9,fun z=>((),z,(),()),fun x y=>N6 x.2.1 y.1⟩:=
 b1O (t:=τ18) Tryz.call210 (fun b cap d w hH hb hs=>by
  have eg:∀args w,(callFunc 211 args).run Tryz.prog w = .ok (.enter 211 args) w:=Tryz.call211;exact AnyQ.slices_SortFunc Tryz.sortA 6 e9Z e6j a1y a9l c0T cfK c6P 211 #[] b 0 cap d w eg (fun _ _ _ _ x y=>b54 x y _) hH hb hs)
  (fun w=>AnyF.slices_SortFunc_none Tryz.sortA none 0 _ w)
theorem c0V(x y:KC 2)(W:World):Calls Tryz.prog 22 #[.agg (a1y x).toArray,.agg (a1y y).toArray] W fun e w'=>e = .returned (.int .i64 (cfK x y))/\∃q os',w'=Sort.grow (W.drewN q) os':=by
 obtain⟨⟨xs,xc⟩,hx1,hx2⟩:=x;obtain⟨⟨ys,yc⟩,hy1,hy2⟩:=y
 match xc,hx1,yc,hy1 with
 |[x1,x2],_,[y1,y2],_=>
  have e1:(Value.agg #[.string ⟨xs.toArray⟩,x1,x2]).cells = #[.string ⟨xs.toArray⟩,x1,x2]:=rfl;unfold cfK a1y;dsimp only;rw[<-a8E]
  go_enter Tryz.func22,Tryz.ntmps22
  go_wp2_with fail
  refine(Tryz.strings_Compare _ _ _).mono ?_;rintro e w1 ⟨rfl,rfl⟩
  go_wp2_with fail
  all_goals go_ret
  all_goals exact⟨by simp_all,0,_,by rw[Sort.alloc_eq_grow,Sort.alloc_eq_grow,Sort.grow_grow];rfl⟩
theorem e90:∀w,(isAgg 41).run Tryz.prog w = .ok true w:=by
 intro w;kernel_rfl
theorem e6k:∀w,(Go.sizeOf 41).run Tryz.prog w = .ok 3 w:=by
 intro w;kernel_rfl
def K4(_u:Unit)(xs:List τ19):Option (List τ19):=b1N (fun p:d3×d3×List τ9=>p.1) xs
theorem d7N:Sound Tryz.prog GW x6 21 ⟨[.row 0,.v (.clo 22 .un)],[.row 41 τ6 true],[],[.row 41 τ6 true,.none],List τ19,fun z=>((),z,(),()),fun x y=>K4 x.2.1 y.1⟩:=
 b1O (t:=(.pr .str τ31)) Tryz.call21 (fun b cap d w hH hb hs=>by
  have eg:∀args w,(callFunc 22 args).run Tryz.prog w = .ok (.enter 22 args) w:=Tryz.call22;exact AnyQ.slices_SortFunc Tryz.sortT 3 e90 e6k a1y a9l c0T cfK c6P 22 #[] b 0 cap d w eg (fun _ _ _ _ x y=>c0V x y _) hH hb hs)
  (fun w=>AnyF.slices_SortFunc_none Tryz.sortT none 0 _ w)
end
end Go.Proofs.YtckdohagilcloaaGreatDoor
