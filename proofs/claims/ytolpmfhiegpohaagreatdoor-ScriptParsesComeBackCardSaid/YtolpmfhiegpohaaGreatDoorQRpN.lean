/- % -/
import Derived.Test.YtolpmfhiegpohaaGreatDoorQPaF11
import Derived.Test.YtolpmfhiegpohaaGreatDoorProg
import Derived.Test.YtolpmfhiegpohaaGreatDoorQBm4
import Derived.Defers
import Derived.Laws.Pointers
import Derived.Laws.LoneSync
import Derived.RegionTactic
import Derived.RegionCalls
import Derived.ChangeAlike
namespace Go.Proofs.YtolpmfhiegpohaaGreatDoor
set_option maxRecDepth 100000
set_option linter.unusedVariables false
set_option linter.unusedSimpArgs false
open Go Go.RowKit
noncomputable section
noncomputable section
def F4(N:Nat)(x0:GExpr)(x1:Int):Option Int:=j8 (br (x0.kind==(1:Int)) (some true) (some (x0.kind==(3:Int)))) fun j5=>br (x0.kind==(1:Int)) (br (decide (x1>=(30:Int))) (some (2:Int)) (j8 (br (decide (x0.kind<(1:Int))) (some true) (some (decide (x0.kind>(8:Int))))) fun j28=>br (j28) (some (4:Int)) (j8 (br (x0.kind==(3:Int)) (j8 (C7 N x0.text) fun t44=>some (!t44)) (some false)) fun j37=>br (j37) (some (5:Int)) (j8 (br (!j5) (some (!(x0.text==([]:d7)))) (some false)) fun j47=>br (j47) (some (3:Int)) (j8 (br (x0.number !=(0:Int)) (some (x0.kind !=(2:Int))) (some false)) fun j47_1=>br (j47_1) (some (3:Int)) (j8 (br (decide ((x0.keys.length:Int)>(0:Int))) (some (x0.kind !=(6:Int))) (some false)) fun j47_2=>br (j47_2) (some (3:Int)) (j8 (j8 (u0 N x0.text) fun t75=>br (!t75) (some true) (j8 (l6 N x0.keys ()) fun t80=>some t80)) fun j72=>br (j72) (some (3:Int)) (j8 (br (decide (x0.number<(0:Int))) (some true) (some (decide (x0.number>(999999999:Int))))) fun j82=>br (j82) (some (3:Int)) (j8 (br (decide ((0:Int)>=(0:Int))) (some ((x0.kids.length:Int) !=(0:Int))) (some false)) fun j82_3=>br (j82_3) (some (3:Int)) (j8 (br (x0.kind==(6:Int)) (br ((x0.keys.length:Int) !=(x0.kids.length:Int)) (some true) (some ((x0.keys.length:Int)==(0:Int)))) (some false)) fun j100=>br (j100) (some (3:Int)) (j8 (r7 N x0.keys) fun t122=>br (t122) (some (7:Int)) (some (0:Int))))))))))))) (br (x0.kind==(2:Int)) (br (decide (x1>=(30:Int))) (some (2:Int)) (j8 (br (decide (x0.kind<(1:Int))) (some true) (some (decide (x0.kind>(8:Int))))) fun j28_4=>br (j28_4) (some (4:Int)) (j8 (br (x0.kind==(3:Int)) (j8 (C7 N x0.text) fun t44_5=>some (!t44_5)) (some false)) fun j37_6=>br (j37_6) (some (5:Int)) (j8 (br (!j5) (some (!(x0.text==([]:d7)))) (some false)) fun j47_7=>br (j47_7) (some (3:Int)) (j8 (br (x0.number !=(0:Int)) (some (x0.kind !=(2:Int))) (some false)) fun j47_8=>br (j47_8) (some (3:Int)) (j8 (br (decide ((x0.keys.length:Int)>(0:Int))) (some (x0.kind !=(6:Int))) (some false)) fun j47_9=>br (j47_9) (some (3:Int)) (j8 (j8 (u0 N x0.text) fun t75_10=>br (!t75_10) (some true) (j8 (l6 N x0.keys ()) fun t80_11=>some t80_11)) fun j72_12=>br (j72_12) (some (3:Int)) (j8 (br (decide (x0.number<(0:Int))) (some true) (some (decide (x0.number>(999999999:Int))))) fun j82_13=>br (j82_13) (some (3:Int)) (j8 (br (decide ((0:Int)>=(0:Int))) (some ((x0.kids.length:Int) !=(0:Int))) (some false)) fun j82_14=>br (j82_14) (some (3:Int)) (j8 (br (x0.kind==(6:Int)) (br ((x0.keys.length:Int) !=(x0.kids.length:Int)) (some true) (some ((x0.keys.length:Int)==(0:Int)))) (some false)) fun j100_15=>br (j100_15) (some (3:Int)) (j8 (r7 N x0.keys) fun t122_16=>br (t122_16) (some (7:Int)) (some (0:Int))))))))))))) (br (x0.kind==(3:Int)) (br (decide (x1>=(30:Int))) (some (2:Int)) (j8 (br (decide (x0.kind<(1:Int))) (some true) (some (decide (x0.kind>(8:Int))))) fun j28_17=>br (j28_17) (some (4:Int)) (j8 (br (x0.kind==(3:Int)) (j8 (C7 N x0.text) fun t44_18=>some (!t44_18)) (some false)) fun j37_19=>br (j37_19) (some (5:Int)) (j8 (br (!j5) (some (!(x0.text==([]:d7)))) (some false)) fun j47_20=>br (j47_20) (some (3:Int)) (j8 (br (x0.number !=(0:Int)) (some (x0.kind !=(2:Int))) (some false)) fun j47_21=>br (j47_21) (some (3:Int)) (j8 (br (decide ((x0.keys.length:Int)>(0:Int))) (some (x0.kind !=(6:Int))) (some false)) fun j47_22=>br (j47_22) (some (3:Int)) (j8 (j8 (u0 N x0.text) fun t75_23=>br (!t75_23) (some true) (j8 (l6 N x0.keys ()) fun t80_24=>some t80_24)) fun j72_25=>br (j72_25) (some (3:Int)) (j8 (br (decide (x0.number<(0:Int))) (some true) (some (decide (x0.number>(999999999:Int))))) fun j82_26=>br (j82_26) (some (3:Int)) (j8 (br (decide ((0:Int)>=(0:Int))) (some ((x0.kids.length:Int) !=(0:Int))) (some false)) fun j82_27=>br (j82_27) (some (3:Int)) (j8 (br (x0.kind==(6:Int)) (br ((x0.keys.length:Int) !=(x0.kids.length:Int)) (some true) (some ((x0.keys.length:Int)==(0:Int)))) (some false)) fun j100_28=>br (j100_28) (some (3:Int)) (j8 (r7 N x0.keys) fun t122_29=>br (t122_29) (some (7:Int)) (some (0:Int))))))))))))) (br (x0.kind==(5:Int)) (br (decide (x1>=(30:Int))) (some (2:Int)) (j8 (br (decide (x0.kind<(1:Int))) (some true) (some (decide (x0.kind>(8:Int))))) fun j28_30=>br (j28_30) (some (4:Int)) (j8 (br (x0.kind==(3:Int)) (j8 (C7 N x0.text) fun t44_31=>some (!t44_31)) (some false)) fun j37_32=>br (j37_32) (some (5:Int)) (j8 (br (!j5) (some (!(x0.text==([]:d7)))) (some false)) fun j47_33=>br (j47_33) (some (3:Int)) (j8 (br (x0.number !=(0:Int)) (some (x0.kind !=(2:Int))) (some false)) fun j47_34=>br (j47_34) (some (3:Int)) (j8 (br (decide ((x0.keys.length:Int)>(0:Int))) (some (x0.kind !=(6:Int))) (some false)) fun j47_35=>br (j47_35) (some (3:Int)) (j8 (j8 (u0 N x0.text) fun t75_36=>br (!t75_36) (some true) (j8 (l6 N x0.keys ()) fun t80_37=>some t80_37)) fun j72_38=>br (j72_38) (some (3:Int)) (j8 (br (decide (x0.number<(0:Int))) (some true) (some (decide (x0.number>(999999999:Int))))) fun j82_39=>br (j82_39) (some (3:Int)) (j8 (br (decide ((2:Int)>=(0:Int))) (some ((x0.kids.length:Int) !=(2:Int))) (some false)) fun j82_40=>br (j82_40) (some (3:Int)) (j8 (br (x0.kind==(6:Int)) (br ((x0.keys.length:Int) !=(x0.kids.length:Int)) (some true) (some ((x0.keys.length:Int)==(0:Int)))) (some false)) fun j100_41=>br (j100_41) (some (3:Int)) (j8 (r7 N x0.keys) fun t122_42=>br (t122_42) (some (7:Int)) (some (0:Int))))))))))))) (br (x0.kind==(7:Int)) (br (decide (x1>=(30:Int))) (some (2:Int)) (j8 (br (decide (x0.kind<(1:Int))) (some true) (some (decide (x0.kind>(8:Int))))) fun j28_43=>br (j28_43) (some (4:Int)) (j8 (br (x0.kind==(3:Int)) (j8 (C7 N x0.text) fun t44_44=>some (!t44_44)) (some false)) fun j37_45=>br (j37_45) (some (5:Int)) (j8 (br (!j5) (some (!(x0.text==([]:d7)))) (some false)) fun j47_46=>br (j47_46) (some (3:Int)) (j8 (br (x0.number !=(0:Int)) (some (x0.kind !=(2:Int))) (some false)) fun j47_47=>br (j47_47) (some (3:Int)) (j8 (br (decide ((x0.keys.length:Int)>(0:Int))) (some (x0.kind !=(6:Int))) (some false)) fun j47_48=>br (j47_48) (some (3:Int)) (j8 (j8 (u0 N x0.text) fun t75_49=>br (!t75_49) (some true) (j8 (l6 N x0.keys ()) fun t80_50=>some t80_50)) fun j72_51=>br (j72_51) (some (3:Int)) (j8 (br (decide (x0.number<(0:Int))) (some true) (some (decide (x0.number>(999999999:Int))))) fun j82_52=>br (j82_52) (some (3:Int)) (j8 (br (decide ((2:Int)>=(0:Int))) (some ((x0.kids.length:Int) !=(2:Int))) (some false)) fun j82_53=>br (j82_53) (some (3:Int)) (j8 (br (x0.kind==(6:Int)) (br ((x0.keys.length:Int) !=(x0.kids.length:Int)) (some true) (some ((x0.keys.length:Int)==(0:Int)))) (some false)) fun j100_54=>br (j100_54) (some (3:Int)) (j8 (r7 N x0.keys) fun t122_55=>br (t122_55) (some (7:Int)) (some (0:Int))))))))))))) (br (x0.kind==(8:Int)) (br (decide (x1>=(30:Int))) (some (2:Int)) (j8 (br (decide (x0.kind<(1:Int))) (some true) (some (decide (x0.kind>(8:Int))))) fun j28_56=>br (j28_56) (some (4:Int)) (j8 (br (x0.kind==(3:Int)) (j8 (C7 N x0.text) fun t44_57=>some (!t44_57)) (some false)) fun j37_58=>br (j37_58) (some (5:Int)) (j8 (br (!j5) (some (!(x0.text==([]:d7)))) (some false)) fun j47_59=>br (j47_59) (some (3:Int)) (j8 (br (x0.number !=(0:Int)) (some (x0.kind !=(2:Int))) (some false)) fun j47_60=>br (j47_60) (some (3:Int)) (j8 (br (decide ((x0.keys.length:Int)>(0:Int))) (some (x0.kind !=(6:Int))) (some false)) fun j47_61=>br (j47_61) (some (3:Int)) (j8 (j8 (u0 N x0.text) fun t75_62=>br (!t75_62) (some true) (j8 (l6 N x0.keys ()) fun t80_63=>some t80_63)) fun j72_64=>br (j72_64) (some (3:Int)) (j8 (br (decide (x0.number<(0:Int))) (some true) (some (decide (x0.number>(999999999:Int))))) fun j82_65=>br (j82_65) (some (3:Int)) (j8 (br (decide ((2:Int)>=(0:Int))) (some ((x0.kids.length:Int) !=(2:Int))) (some false)) fun j82_66=>br (j82_66) (some (3:Int)) (j8 (br (x0.kind==(6:Int)) (br ((x0.keys.length:Int) !=(x0.kids.length:Int)) (some true) (some ((x0.keys.length:Int)==(0:Int)))) (some false)) fun j100_67=>br (j100_67) (some (3:Int)) (j8 (r7 N x0.keys) fun t122_68=>br (t122_68) (some (7:Int)) (some (0:Int))))))))))))) (br (decide (x1>=(30:Int))) (some (2:Int)) (j8 (br (decide (x0.kind<(1:Int))) (some true) (some (decide (x0.kind>(8:Int))))) fun j28_69=>br (j28_69) (some (4:Int)) (j8 (br (x0.kind==(3:Int)) (j8 (C7 N x0.text) fun t44_70=>some (!t44_70)) (some false)) fun j37_71=>br (j37_71) (some (5:Int)) (j8 (br (!j5) (some (!(x0.text==([]:d7)))) (some false)) fun j47_72=>br (j47_72) (some (3:Int)) (j8 (br (x0.number !=(0:Int)) (some (x0.kind !=(2:Int))) (some false)) fun j47_73=>br (j47_73) (some (3:Int)) (j8 (br (decide ((x0.keys.length:Int)>(0:Int))) (some (x0.kind !=(6:Int))) (some false)) fun j47_74=>br (j47_74) (some (3:Int)) (j8 (j8 (u0 N x0.text) fun t75_75=>br (!t75_75) (some true) (j8 (l6 N x0.keys ()) fun t80_76=>some t80_76)) fun j72_77=>br (j72_77) (some (3:Int)) (j8 (br (decide (x0.number<(0:Int))) (some true) (some (decide (x0.number>(999999999:Int))))) fun j82_78=>br (j82_78) (some (3:Int)) (j8 (br (decide ((-1:Int)>=(0:Int))) (some ((x0.kids.length:Int) !=(-1:Int))) (some false)) fun j82_79=>br (j82_79) (some (3:Int)) (j8 (br (x0.kind==(6:Int)) (br ((x0.keys.length:Int) !=(x0.kids.length:Int)) (some true) (some ((x0.keys.length:Int)==(0:Int)))) (some false)) fun j100_80=>br (j100_80) (some (3:Int)) (j8 (r7 N x0.keys) fun t122_81=>br (t122_81) (some (7:Int)) (some (0:Int))))))))))))))))))
abbrev d7Q:=sgM [.v τ3,.v τ2] [] [.v τ2] [] (Int) fun z=>((z,()),())
abbrev d5V(N:Nat):AF:=d7Q fun x _=>F4 N x.1 x.2.1
def c7W(N:Nat):FuncId->Option Tmp->Option AF:=fun f _=>lkF [(135,c1D N),(142,z0g N),(144,c1L N),(145,c2X N)] f
theorem c7X(N:Nat):X8 (c7W N):=fun _ _ _ h=>B9 h (L3 (a80 N) (L3 (d2t N) (L3 (a87 N) (L3 (b5j N) T8))))
def d7P:Nat->Hint:=fun i=>
 match i with
 |_=>y5
abbrev e0o(N:Nat):Env:=mkE d7P (c7W N) FF FF |>.jk (fun i=>match i with|1=>some 5|14=>some 28|16=>some 37|18=>some 47|19=>some 47|20=>some 47|22=>some 72|24=>some 82|25=>some 82|27=>some 100|_=>none)
theorem c7Y(N:Nat):Snd 146 (d5V N):=
 a6K (e0o N) (EnvOk.jk (O3 d7P (c7W N) _ _ (c7X N)) _) Tryz.func146 rfl Tryz.call146 (d5V N) (fun x _=>x.1) (fun _ _=>rfl) N (fun _ _=>by kernel_rfl) rfl
def N7(_N:Nat)(x0:GExpr)(x1:Int):Option Bool:=j8 (m6 x0.kids x1) fun t9=>br (x0.kind==(7:Int)) (j8 (br (t9.kind==(8:Int)) (some true) (br (t9.kind==(7:Int)) (some (x1==(1:Int))) (some false))) fun j4=>some j4) (br (x0.kind==(8:Int)) (some (t9.kind==(8:Int))) (some false))
abbrev d8R:=sgM [.v τ3,.v τ2] [] [.v .bool] [] (Bool) fun z=>((z,()),())
abbrev d3k(N:Nat):AF:=d8R fun x _=>N7 N x.1 x.2.1
def d0f(_N:Nat):FuncId->Option Tmp->Option AF:=fun f _=>lkF [] f
theorem d0g(N:Nat):X8 (d0f N):=fun _ _ _ h=>B9 h T8
def d8Q:Nat->Hint:=fun i=>
 match i with
 |_=>y5
abbrev e0L(N:Nat):Env:=mkE d8Q (d0f N) FF FF |>.jk (fun i=>match i with|4=>some 4|_=>none)
theorem b82(N:Nat):Snd 108 (d3k N):=
 a6K (e0L N) (EnvOk.jk (O3 d8Q (d0f N) _ _ (d0g N)) _) Tryz.func108 rfl Tryz.call108 (d3k N) (fun x _=>x.1) (fun _ _=>rfl) N (fun _ _=>by kernel_rfl) rfl
abbrev b86:=sgM [.v τ3,.v τ2] [] [.v τ2] [] (Int) fun z=>((z,()),())
def a5u(N:Nat)(i7:ρ17)(x1:Int)(c17:List GExpr)(c18:Int)(κ2_0:Int)(κ2_1:d7)(κ2_2:Int)(κ2_3:List d7)(κ2_4:List GExpr)(k0:Option Int)(self:ρ21)(s19:Int):Option Int:=br (decide (s19<c18)) (j8 (m6 c17 s19) fun t22=>br (κ2_0 !=(7:Int)) (j8 (N7 N (GExpr.mk κ2_0 κ2_1 κ2_2 κ2_3 κ2_4) s19) fun t32=>br (t32) (j8 (i7 (Ze t22) (IntKind.i64.wrap ((IntKind.i64.wrap (x1+(1:Int)))+(1:Int)))) fun t37=>br (t37 !=(0:Int)) (some t37) (self (IntKind.i64.wrap (s19+(1:Int))))) (j8 (i7 (Ze t22) (IntKind.i64.wrap (x1+(1:Int)))) fun t37_1=>br (t37_1 !=(0:Int)) (some t37_1) (self (IntKind.i64.wrap (s19+(1:Int)))))) (j8 (N7 N (GExpr.mk κ2_0 κ2_1 κ2_2 κ2_3 κ2_4) s19) fun t32_2=>br (t32_2) (j8 (i7 (Ze t22) (IntKind.i64.wrap (x1+(1:Int)))) fun t37_3=>br (t37_3 !=(0:Int)) (some t37_3) (self (IntKind.i64.wrap (s19+(1:Int))))) (j8 (i7 (Ze t22) x1) fun t37_4=>br (t37_4 !=(0:Int)) (some t37_4) (self (IntKind.i64.wrap (s19+(1:Int))))))) (k0)
def b3p(N:Nat)(i7:ρ17)(x1:Int)(c17:List GExpr)(c18:Int)(κ2_0:Int)(κ2_1:d7)(κ2_2:Int)(κ2_3:List d7)(κ2_4:List GExpr)(k0:Option Int):Nat->Int->Option Int|0,_=>none|n+1,s19=>a5u N i7 x1 c17 c18 κ2_0 κ2_1 κ2_2 κ2_3 κ2_4 k0 (b3p N i7 x1 c17 c18 κ2_0 κ2_1 κ2_2 κ2_3 κ2_4 k0 n) s19
def I3(N:Nat)(i7:ρ17)(x0:GExpr)(x1:Int):Option Int:=j8 (F4 N (Ze x0) x1) fun t12=>br (t12 !=(0:Int)) (some t12) (b3p N i7 x1 x0.kids (x0.kids.length:Int) x0.kind x0.text x0.number x0.keys x0.kids (some (0:Int)) N (0:Int))
abbrev d8z:=sgM [.v τ3,.v τ2] [] [.v τ2] [] (Int) fun z=>((z,()),())
abbrev d3f(N:Nat)(i7:ρ17):AF:=d8z fun x _=>I3 N i7 x.1 x.2.1
abbrev c9P:SV [.v τ2]->BV []->Int:=fun x _=>x.1
def c9N(N:Nat)(i7:ρ17):FuncId->Option Tmp->Option AF:=fun f _=>lkF [(87,b86 fun x _=>i7 x.1 x.2.1),(108,d3k N),(146,d5V N)] f
theorem c9O(N:Nat)(i7:ρ17)(a0t:Sound Tryz.prog GW x9 87 (b86 fun x y=>i7 x.1 x.2.1)):∀f q F,c9N N i7 f q=some F->Sound Tryz.prog GW x9 f F:=fun _ _ _ h=>B9 h (L3 (a0t) (L3 (b82 N) (L3 (c7Y N) T8)))
def c1j:Nat->Hint:=fun i=>
 match i with
 |0=>⟨[],[1,2,17,18,19],[1002],[],[],[]⟩
 |_=>y5
abbrev b4l(N:Nat)(i7:ρ17):Env:=mkE c1j (c9N N i7) (fun _=>false) (fun _=>false) |>.jk (fun _=>none)
abbrev c1i(N:Nat)(i7:ρ17):=L9 (b4l N i7) Tryz.f87 (d3f N i7) c9P
noncomputable abbrev b5A:Code:=cAt (B3 Tryz.f87) [true,true,false,true,false,false]
abbrev a8D:List (Nat×Sl):=[(1,.v τ2),(2,.box 1002 0),(17,.v (.sl τ3)),(18,.v τ2),(19,.v τ2)]
abbrev a8C:List (Nat×Sb):=[(1002,.cells [.v τ2,.v .str,.v τ2,.v N3,.v (.sl τ3)])]
def b3q(x1:Int)(c17:List GExpr)(c18:Int)(κ2_0:Int)(κ2_1:d7)(κ2_2:Int)(κ2_3:List d7)(κ2_4:List GExpr)(s19:Int):St:=⟨42,[(1,.v τ2 x1),(2,.box 1002 0),(17,.v (.sl τ3) c17),(18,.v τ2 c18),(19,.v τ2 s19)],[(1002,.cells [.v τ2 κ2_0,.v .str κ2_1,.v τ2 κ2_2,.v N3 κ2_3,.v (.sl τ3) κ2_4])]⟩
def a6h(_x1:Int)(_c17:List GExpr)(_c18:Int)(_κ2_0:Int)(_κ2_1:d7)(_κ2_2:Int)(_κ2_3:List d7)(_κ2_4:List GExpr):St:=⟨42,[],[]⟩
def d3d(N:Nat)(i7:ρ17)(x1:Int)(c17:List GExpr)(c18:Int)(κ2_0:Int)(κ2_1:d7)(κ2_2:Int)(κ2_3:List d7)(κ2_4:List GExpr)(s19:Int)(k:Ex->St->Option Int):Option Int:=b3p N i7 x1 c17 c18 κ2_0 κ2_1 κ2_2 κ2_3 κ2_4 (k (.exit 0) (a6h x1 c17 c18 κ2_0 κ2_1 κ2_2 κ2_3 κ2_4)) N s19
abbrev c3x(N:Nat)(i7:ρ17):FV a8D->HV a8C->(Ex->St->Option Int)->Option Int:=fun x y k=>d3d N i7 x.1 x.2.2.1 x.2.2.2.1 y.1.1 y.1.2.1 y.1.2.2.1 y.1.2.2.2.1 y.1.2.2.2.2.1 x.2.2.2.2.1 k
def b3r(N:Nat)(i7:ρ17):Nat->Code->St->(Ex->St->Option Int)->Option Int:=fun i c=>
 match i with
 |0=>(LPc 42 a8D a8C (c3x N i7) (fun st k=>iter (c1j 0) (o7 (b4l N i7) N c 0) N st k))
 |i=>fun st k=>iter (c1j i) (o7 (b4l N i7) N c i) N st k
theorem c1h(N:Nat)(i7:ρ17)(x1:Int)(c17:List GExpr)(c18:Int)(κ2_0:Int)(κ2_1:d7)(κ2_2:Int)(κ2_3:List d7)(κ2_4:List GExpr)(KX:Nat->St->Option Int)(I:St->Option Int)(s19:Int):
  p8 (b3r N i7) (b4l N i7) b5A 0 (b3q x1 c17 c18 κ2_0 κ2_1 κ2_2 κ2_3 κ2_4 s19) (F9 (c1j 0) I KX (c1i N i7))=a5u N i7 x1 c17 c18 κ2_0 κ2_1 κ2_2 κ2_3 κ2_4 (KX 0 (a6h x1 c17 c18 κ2_0 κ2_1 κ2_2 κ2_3 κ2_4)) (fun s19=>I (b3q x1 c17 c18 κ2_0 κ2_1 κ2_2 κ2_3 κ2_4 s19)) s19:=by kernel_rfl
theorem c9M(N:Nat)(i7:ρ17):∀x y k,(∀st,k .ret st=(c1i N i7) st)->iter (c1j 0) (o7 (b4l N i7) N b5A 0) N ⟨42,unF a8D x,unH a8C y⟩ k=c3x N i7 x y k:=fun x y k hk=>
 p9 (S:=(Int)×Unit) (c1j 0) _ (p8 (b3r N i7) (b4l N i7) b5A 0) (c1i N i7) (u9 _ _ N _ b5A 0 (show LoopsOk (b3r N i7) (b4l N i7) N (c1i N i7) []from trivial)) (fun s=>b3q x.1 x.2.2.1 x.2.2.2.1 y.1.1 y.1.2.1 y.1.2.2.1 y.1.2.2.2.1 y.1.2.2.2.2.1 s.1) k hk
  (fun self s=>a5u N i7 x.1 x.2.2.1 x.2.2.2.1 y.1.1 y.1.2.1 y.1.2.2.1 y.1.2.2.2.1 y.1.2.2.2.2.1 (k (.exit 0) (a6h x.1 x.2.2.1 x.2.2.2.1 y.1.1 y.1.2.1 y.1.2.2.1 y.1.2.2.2.1 y.1.2.2.2.2.1)) (fun s19=>self (s19,())) s.1) (fun n s=>b3p N i7 x.1 x.2.2.1 x.2.2.2.1 y.1.1 y.1.2.1 y.1.2.2.1 y.1.2.2.2.1 y.1.2.2.2.2.1 (k (.exit 0) (a6h x.1 x.2.2.1 x.2.2.2.1 y.1.1 y.1.2.1 y.1.2.2.1 y.1.2.2.2.1 y.1.2.2.2.2.1)) n s.1) (fun _=>rfl) (fun _ _=>rfl)
  (fun I s=>c1h N i7 x.1 x.2.2.1 x.2.2.2.1 y.1.1 y.1.2.1 y.1.2.2.1 y.1.2.2.2.1 y.1.2.2.2.2.1 (fun j=>k (.exit j)) I s.1) N (x.2.2.2.2.1,())
theorem d6p(N:Nat)(i7:ρ17):Z1 (b3r N i7) (b4l N i7) N (c1i N i7) 0 b5A:=fun st k hk=>H3 42 a8D a8C _ _ (c1i N i7) (c9M N i7) _ st k hk (rfl)
theorem d3e(N:Nat)(i7:ρ17)(x:SV [.v τ3,.v τ2])(y:BV []):V4 (b4l N i7) Tryz.f87 (d3f N i7) c9P (b3r N i7) x y=I3 N i7 x.1 x.2.1:=by kernel_rfl
theorem c9Q(N:Nat)(i7:ρ17)(a0t:Sound Tryz.prog GW x9 87 (b86 fun x y=>i7 x.1 x.2.1)):Sound Tryz.prog GW x9 87 (d3f N i7):=
 b2f (EnvOk.jk (O3 c1j (c9N N i7) _ _ (c9O N i7 a0t)) _) Tryz.func87 rfl Tryz.call87 (d3f N i7) c9P (fun _ _=>rfl) N (b3r N i7) (show LoopsOk (b3r N i7) (b4l N i7) N (c1i N i7) [(0,b5A)]from⟨d6p N i7,trivial⟩) (d3e N i7)
def F1(N:Nat):Nat->GExpr->Int->Option (Int)|0=>fun _ _=>none|d+1=>I3 N (F1 N d)
theorem b87(N:Nat):∀d,Sound Tryz.prog GW x9 87 (b86 fun x y=>F1 N d x.1 x.2.1)
 |0=>Sound.never Tryz.call87 (fun _ _=>rfl)
 |d+1=>c9Q N (F1 N d) (b87 N d)
abbrev b8O:=sgM [.v τ5,.v τ2] [] [.v τ2] [] (Int) fun z=>((z,()),())
def a1d(N:Nat)(d4:ρ14)(x1:Int)(c38:List (d7×GExpr))(c39:Int)(k2:Option Int)(self:ρ21)(s40:Int):Option Int:=br (decide (s40<c39)) (j8 (m6 c38 s40) fun t42=>j8 (F1 N N (Ze t42.2) (IntKind.i64.wrap (x1+(1:Int)))) fun t48=>br (t48 !=(0:Int)) (some t48) (self (IntKind.i64.wrap (s40+(1:Int))))) (k2)
def a3q(N:Nat)(d4:ρ14)(x1:Int)(c38:List (d7×GExpr))(c39:Int)(k2:Option Int):Nat->Int->Option Int|0,_=>none|n+1,s40=>a1d N d4 x1 c38 c39 k2 (a3q N d4 x1 c38 c39 k2 n) s40
def X0(N:Nat)(d4:ρ14)(x1:Int)(x0:List GStmt)(c15:Int)(k0:Option Int)(self:ρ21)(s16:Int):Option Int:=br (decide (s16<c15)) (j8 (m6 x0 s16) fun t18=>j8 (E0 N (GStmt.mk t18.kind t18.name t18.text t18.params t18.args (Ze t18.expr) t18.body t18.els t18.at_) x1) fun t22=>br (t22 !=(0:Int)) (some t22) (j8 (S6 N (GStmt.mk t18.kind t18.name t18.text t18.params t18.args (Ze t18.expr) t18.body t18.els t18.at_)) fun t27=>br (t27.2.2.2.2.1) (j8 (F1 N N (Ze t18.expr) (IntKind.i64.wrap (x1+(1:Int)))) fun t33=>br (t33 !=(0:Int)) (some t33) (a3q N d4 x1 t18.args (t18.args.length:Int) (j8 (d4 t18.body (IntKind.i64.wrap (x1+(1:Int)))) fun t57=>br (t57 !=(0:Int)) (some t57) (j8 (d4 t18.els (IntKind.i64.wrap (x1+(1:Int)))) fun t65=>br (t65 !=(0:Int)) (some t65) (self (IntKind.i64.wrap (s16+(1:Int)))))) N (0:Int))) (a3q N d4 x1 t18.args (t18.args.length:Int) (j8 (d4 t18.body (IntKind.i64.wrap (x1+(1:Int)))) fun t57_1=>br (t57_1 !=(0:Int)) (some t57_1) (j8 (d4 t18.els (IntKind.i64.wrap (x1+(1:Int)))) fun t65_2=>br (t65_2 !=(0:Int)) (some t65_2) (self (IntKind.i64.wrap (s16+(1:Int)))))) N (0:Int)))) (k0)
def a6Q(N:Nat)(d4:ρ14)(x1:Int)(x0:List GStmt)(c15:Int)(k0:Option Int):Nat->Int->Option Int|0,_=>none|n+1,s16=>X0 N d4 x1 x0 c15 k0 (a6Q N d4 x1 x0 c15 k0 n) s16
def n7(N:Nat)(d4:ρ14)(x0:List GStmt)(x1:Int):Option Int:=a6Q N d4 x1 x0 (x0.length:Int) (some (0:Int)) N (0:Int)
abbrev d7J:=sgM [.v τ5,.v τ2] [] [.v τ2] [] (Int) fun z=>((z,()),())
abbrev d2C(N:Nat)(d4:ρ14):AF:=d7J fun x _=>n7 N d4 x.1 x.2.1
abbrev c7L:SV [.v τ2]->BV []->Int:=fun x _=>x.1
def c7I(N:Nat)(d4:ρ14):FuncId->Option Tmp->Option AF:=fun f _=>lkF [(50,b8O fun x _=>d4 x.1 x.2.1),(84,b8J N),(86,d6u N),(87,b86 fun x _=>F1 N N x.1 x.2.1)] f
theorem c7J(N:Nat)(d4:ρ14)(S4:Sound Tryz.prog GW x9 50 (b8O fun x y=>d4 x.1 x.2.1)):∀f q F,c7I N d4 f q=some F->Sound Tryz.prog GW x9 f F:=fun _ _ _ h=>B9 h (L3 (S4) (L3 (a9T N) (L3 (d0e N) (L3 (b87 N N) T8))))
def b2L:Nat->Hint:=fun i=>
 match i with
 |0=>⟨[],[1,14,15,16],[],[],[],[]⟩
 |2=>⟨[],[1,6,14,15,16,38,39,40],[1006],[1,6,14,15,16],[1006],[]⟩
 |_=>y5
abbrev a6A(N:Nat)(d4:ρ14):Env:=mkE b2L (c7I N d4) (fun _=>false) (fun _=>false) |>.jk (fun _=>none)
abbrev a9U(N:Nat)(d4:ρ14):=L9 (a6A N d4) Tryz.f50 (d2C N d4) c7L
noncomputable abbrev b5p:Code:=cAt (B3 Tryz.f50) [true,false,true,false,false]
noncomputable abbrev b2K:Code:=cAt (B3 Tryz.f50) [true,false,true,false,false,true,true,false,false,true,true,true,false,true,false,false]
abbrev a79:List (Nat×Sl):=[(1,.v τ2),(6,.box 1006 0),(14,.v τ5),(15,.v τ2),(16,.v τ2),(38,.v (.sl X7)),(39,.v τ2),(40,.v τ2)]
abbrev a78:List (Nat×Sb):=[(1006,.cells [.v τ2,.v .str,.v .str,.v N3,.v (.sl X7),.v τ2,.v .str,.v τ2,.v N3,.v (.sl τ3),.v τ5,.v τ5,.v τ2])]
def b2J(x1:Int)(x0:List GStmt)(c15:Int)(s16:Int)(c38:List (d7×GExpr))(c39:Int)(κ6_0:Int)(κ6_1:d7)(κ6_2:d7)(κ6_3:List d7)(κ6_4:List (d7×GExpr))(κ6_5:Int)(κ6_6:d7)(κ6_7:Int)(κ6_8:List d7)(κ6_9:List GExpr)(κ6_10:List GStmt)(κ6_11:List GStmt)(κ6_12:Int)(s40:Int):St:=⟨70,[(1,.v τ2 x1),(6,.box 1006 0),(14,.v τ5 x0),(15,.v τ2 c15),(16,.v τ2 s16),(38,.v (.sl X7) c38),(39,.v τ2 c39),(40,.v τ2 s40)],[(1006,.cells [.v τ2 κ6_0,.v .str κ6_1,.v .str κ6_2,.v N3 κ6_3,.v (.sl X7) κ6_4,.v τ2 κ6_5,.v .str κ6_6,.v τ2 κ6_7,.v N3 κ6_8,.v (.sl τ3) κ6_9,.v τ5 κ6_10,.v τ5 κ6_11,.v τ2 κ6_12])]⟩
def a52(x1:Int)(x0:List GStmt)(c15:Int)(s16:Int)(_c38:List (d7×GExpr))(_c39:Int)(κ6_0:Int)(κ6_1:d7)(κ6_2:d7)(κ6_3:List d7)(κ6_4:List (d7×GExpr))(κ6_5:Int)(κ6_6:d7)(κ6_7:Int)(κ6_8:List d7)(κ6_9:List GExpr)(κ6_10:List GStmt)(κ6_11:List GStmt)(κ6_12:Int):St:=⟨70,[(1,.v τ2 x1),(6,.box 1006 0),(14,.v τ5 x0),(15,.v τ2 c15),(16,.v τ2 s16)],[(1006,.cells [.v τ2 κ6_0,.v .str κ6_1,.v .str κ6_2,.v N3 κ6_3,.v (.sl X7) κ6_4,.v τ2 κ6_5,.v .str κ6_6,.v τ2 κ6_7,.v N3 κ6_8,.v (.sl τ3) κ6_9,.v τ5 κ6_10,.v τ5 κ6_11,.v τ2 κ6_12])]⟩
def d2A(N:Nat)(d4:ρ14)(x1:Int)(x0:List GStmt)(c15:Int)(s16:Int)(c38:List (d7×GExpr))(c39:Int)(κ6_0:Int)(κ6_1:d7)(κ6_2:d7)(κ6_3:List d7)(κ6_4:List (d7×GExpr))(κ6_5:Int)(κ6_6:d7)(κ6_7:Int)(κ6_8:List d7)(κ6_9:List GExpr)(κ6_10:List GStmt)(κ6_11:List GStmt)(κ6_12:Int)(s40:Int)(k:Ex->St->Option Int):Option Int:=a3q N d4 x1 c38 c39 (k (.exit 2) (a52 x1 x0 c15 s16 c38 c39 κ6_0 κ6_1 κ6_2 κ6_3 κ6_4 κ6_5 κ6_6 κ6_7 κ6_8 κ6_9 κ6_10 κ6_11 κ6_12)) N s40
abbrev c25(N:Nat)(d4:ρ14):FV a79->HV a78->(Ex->St->Option Int)->Option Int:=fun x y k=>let z:=y.1.2.2.2.2.2.2;let u:=y.1.2.2;d2A N d4 x.1 x.2.2.1 x.2.2.2.1 x.2.2.2.2.1 x.2.2.2.2.2.1 x.2.2.2.2.2.2.1 y.1.1 y.1.2.1 u.1 u.2.1 u.2.2.1 u.2.2.2.1 z.1 z.2.1 z.2.2.1 z.2.2.2.1 z.2.2.2.2.1 z.2.2.2.2.2.1 z.2.2.2.2.2.2.1 x.2.2.2.2.2.2.2.1 k
abbrev a77:List (Nat×Sl):=[(1,.v τ2),(14,.v τ5),(15,.v τ2),(16,.v τ2)]
abbrev a74:List (Nat×Sb):=[]
def b2I(x1:Int)(x0:List GStmt)(c15:Int)(s16:Int):St:=⟨70,[(1,.v τ2 x1),(14,.v τ5 x0),(15,.v τ2 c15),(16,.v τ2 s16)],[]⟩
def a50(_x1:Int)(_x0:List GStmt)(_c15:Int):St:=⟨70,[],[]⟩
def d2z(N:Nat)(d4:ρ14)(x1:Int)(x0:List GStmt)(c15:Int)(s16:Int)(k:Ex->St->Option Int):Option Int:=a6Q N d4 x1 x0 c15 (k (.exit 0) (a50 x1 x0 c15)) N s16
abbrev c24(N:Nat)(d4:ρ14):FV a77->HV a74->(Ex->St->Option Int)->Option Int:=fun x _ k=>d2z N d4 x.1 x.2.1 x.2.2.1 x.2.2.2.1 k
def a5s(N:Nat)(d4:ρ14):Nat->Code->St->(Ex->St->Option Int)->Option Int:=fun i c=>
 match i with
 |0=>(LPc 70 a77 a74 (c24 N d4) (fun st k=>iter (b2L 0) (o7 (a6A N d4) N c 0) N st k))
 |2=>(LPc 70 a79 a78 (c25 N d4) (fun st k=>iter (b2L 2) (o7 (a6A N d4) N c 2) N st k))
 |i=>fun st k=>iter (b2L i) (o7 (a6A N d4) N c i) N st k
theorem c0N(N:Nat)(d4:ρ14)(x1:Int)(x0:List GStmt)(c15:Int)(s16:Int)(c38:List (d7×GExpr))(c39:Int)(κ6_0:Int)(κ6_1:d7)(κ6_2:d7)(κ6_3:List d7)(κ6_4:List (d7×GExpr))(κ6_5:Int)(κ6_6:d7)(κ6_7:Int)(κ6_8:List d7)(κ6_9:List GExpr)(κ6_10:List GStmt)(κ6_11:List GStmt)(κ6_12:Int)(KX:Nat->St->Option Int)(I:St->Option Int)(s40:Int):
  p8 (a5s N d4) (a6A N d4) b2K 2 (b2J x1 x0 c15 s16 c38 c39 κ6_0 κ6_1 κ6_2 κ6_3 κ6_4 κ6_5 κ6_6 κ6_7 κ6_8 κ6_9 κ6_10 κ6_11 κ6_12 s40) (F9 (b2L 2) I KX (a9U N d4))=a1d N d4 x1 c38 c39 (KX 2 (a52 x1 x0 c15 s16 c38 c39 κ6_0 κ6_1 κ6_2 κ6_3 κ6_4 κ6_5 κ6_6 κ6_7 κ6_8 κ6_9 κ6_10 κ6_11 κ6_12)) (fun s40=>I (b2J x1 x0 c15 s16 c38 c39 κ6_0 κ6_1 κ6_2 κ6_3 κ6_4 κ6_5 κ6_6 κ6_7 κ6_8 κ6_9 κ6_10 κ6_11 κ6_12 s40)) s40:=by kernel_rfl
theorem c7H(N:Nat)(d4:ρ14):∀x y k,(∀st,k .ret st=(a9U N d4) st)->iter (b2L 2) (o7 (a6A N d4) N b2K 2) N ⟨70,unF a79 x,unH a78 y⟩ k=c25 N d4 x y k:=fun x y k hk=>
 p9 (S:=(Int)×Unit) (b2L 2) _ (p8 (a5s N d4) (a6A N d4) b2K 2) (a9U N d4) (u9 _ _ N _ b2K 2 (show LoopsOk (a5s N d4) (a6A N d4) N (a9U N d4) []from trivial)) (fun s=>b2J x.1 x.2.2.1 x.2.2.2.1 x.2.2.2.2.1 x.2.2.2.2.2.1 x.2.2.2.2.2.2.1 y.1.1 y.1.2.1 y.1.2.2.1 y.1.2.2.2.1 y.1.2.2.2.2.1 y.1.2.2.2.2.2.1 y.1.2.2.2.2.2.2.1 y.1.2.2.2.2.2.2.2.1 y.1.2.2.2.2.2.2.2.2.1 y.1.2.2.2.2.2.2.2.2.2.1 y.1.2.2.2.2.2.2.2.2.2.2.1 y.1.2.2.2.2.2.2.2.2.2.2.2.1 y.1.2.2.2.2.2.2.2.2.2.2.2.2.1 s.1) k hk
  (fun self s=>a1d N d4 x.1 x.2.2.2.2.2.1 x.2.2.2.2.2.2.1 (k (.exit 2) (a52 x.1 x.2.2.1 x.2.2.2.1 x.2.2.2.2.1 x.2.2.2.2.2.1 x.2.2.2.2.2.2.1 y.1.1 y.1.2.1 y.1.2.2.1 y.1.2.2.2.1 y.1.2.2.2.2.1 y.1.2.2.2.2.2.1 y.1.2.2.2.2.2.2.1 y.1.2.2.2.2.2.2.2.1 y.1.2.2.2.2.2.2.2.2.1 y.1.2.2.2.2.2.2.2.2.2.1 y.1.2.2.2.2.2.2.2.2.2.2.1 y.1.2.2.2.2.2.2.2.2.2.2.2.1 y.1.2.2.2.2.2.2.2.2.2.2.2.2.1)) (fun s40=>self (s40,())) s.1) (fun n s=>a3q N d4 x.1 x.2.2.2.2.2.1 x.2.2.2.2.2.2.1 (k (.exit 2) (a52 x.1 x.2.2.1 x.2.2.2.1 x.2.2.2.2.1 x.2.2.2.2.2.1 x.2.2.2.2.2.2.1 y.1.1 y.1.2.1 y.1.2.2.1 y.1.2.2.2.1 y.1.2.2.2.2.1 y.1.2.2.2.2.2.1 y.1.2.2.2.2.2.2.1 y.1.2.2.2.2.2.2.2.1 y.1.2.2.2.2.2.2.2.2.1 y.1.2.2.2.2.2.2.2.2.2.1 y.1.2.2.2.2.2.2.2.2.2.2.1 y.1.2.2.2.2.2.2.2.2.2.2.2.1 y.1.2.2.2.2.2.2.2.2.2.2.2.2.1)) n s.1) (fun _=>rfl) (fun _ _=>rfl)
  (fun I s=>c0N N d4 x.1 x.2.2.1 x.2.2.2.1 x.2.2.2.2.1 x.2.2.2.2.2.1 x.2.2.2.2.2.2.1 y.1.1 y.1.2.1 y.1.2.2.1 y.1.2.2.2.1 y.1.2.2.2.2.1 y.1.2.2.2.2.2.1 y.1.2.2.2.2.2.2.1 y.1.2.2.2.2.2.2.2.1 y.1.2.2.2.2.2.2.2.2.1 y.1.2.2.2.2.2.2.2.2.2.1 y.1.2.2.2.2.2.2.2.2.2.2.1 y.1.2.2.2.2.2.2.2.2.2.2.2.1 y.1.2.2.2.2.2.2.2.2.2.2.2.2.1 (fun j=>k (.exit j)) I s.1) N (x.2.2.2.2.2.2.2.1,())
theorem c7K(N:Nat)(d4:ρ14):Z1 (a5s N d4) (a6A N d4) N (a9U N d4) 2 b2K:=fun st k hk=>H3 70 a79 a78 _ _ (a9U N d4) (c7H N d4) _ st k hk (rfl)
theorem c0M(N:Nat)(d4:ρ14)(x1:Int)(x0:List GStmt)(c15:Int)(KX:Nat->St->Option Int)(I:St->Option Int)(s16:Int):
  p8 (a5s N d4) (a6A N d4) b5p 0 (b2I x1 x0 c15 s16) (F9 (b2L 0) I KX (a9U N d4))=X0 N d4 x1 x0 c15 (KX 0 (a50 x1 x0 c15)) (fun s16=>I (b2I x1 x0 c15 s16)) s16:=by kernel_rfl
theorem c7G(N:Nat)(d4:ρ14):∀x y k,(∀st,k .ret st=(a9U N d4) st)->iter (b2L 0) (o7 (a6A N d4) N b5p 0) N ⟨70,unF a77 x,unH a74 y⟩ k=c24 N d4 x y k:=fun x _ k hk=>
 p9 (S:=(Int)×Unit) (b2L 0) _ (p8 (a5s N d4) (a6A N d4) b5p 0) (a9U N d4) (u9 _ _ N _ b5p 0 (show LoopsOk (a5s N d4) (a6A N d4) N (a9U N d4) [(2,b2K)]from⟨c7K N d4,trivial⟩)) (fun s=>b2I x.1 x.2.1 x.2.2.1 s.1) k hk
  (fun self s=>X0 N d4 x.1 x.2.1 x.2.2.1 (k (.exit 0) (a50 x.1 x.2.1 x.2.2.1)) (fun s16=>self (s16,())) s.1) (fun n s=>a6Q N d4 x.1 x.2.1 x.2.2.1 (k (.exit 0) (a50 x.1 x.2.1 x.2.2.1)) n s.1) (fun _=>rfl) (fun _ _=>rfl)
  (fun I s=>c0M N d4 x.1 x.2.1 x.2.2.1 (fun j=>k (.exit j)) I s.1) N (x.2.2.2.1,())
theorem d5R(N:Nat)(d4:ρ14):Z1 (a5s N d4) (a6A N d4) N (a9U N d4) 0 b5p:=fun st k hk=>H3 70 a77 a74 _ _ (a9U N d4) (c7G N d4) _ st k hk (rfl)
theorem d2B(N:Nat)(d4:ρ14)(x:SV [.v τ5,.v τ2])(y:BV []):V4 (a6A N d4) Tryz.f50 (d2C N d4) c7L (a5s N d4) x y=n7 N d4 x.1 x.2.1:=by kernel_rfl
theorem c7M(N:Nat)(d4:ρ14)(S4:Sound Tryz.prog GW x9 50 (b8O fun x y=>d4 x.1 x.2.1)):Sound Tryz.prog GW x9 50 (d2C N d4):=
 b2f (EnvOk.jk (O3 b2L (c7I N d4) _ _ (c7J N d4 S4)) _) Tryz.func50 rfl Tryz.call50 (d2C N d4) c7L (fun _ _=>rfl) N (a5s N d4) (show LoopsOk (a5s N d4) (a6A N d4) N (a9U N d4) [(0,b5p),(2,b2K)]from⟨d5R N d4,c7K N d4,trivial⟩) (d2B N d4)
def l7(N:Nat):Nat->(List GStmt)->Int->Option (Int)|0=>fun _ _=>none|d+1=>n7 N (l7 N d)
theorem b8P(N:Nat):∀d,Sound Tryz.prog GW x9 50 (b8O fun x y=>l7 N d x.1 x.2.1)
 |0=>Sound.never Tryz.call50 (fun _ _=>rfl)
 |d+1=>c7M N (l7 N d) (b8P N d)
end
end
section
theorem b19(w:World):(callFunc 305 #[]).run Tryz.prog w = .ok (.value (.tuple #[])) w:=run_call_mark0 Tryz.func305 (by kernel_rfl) (by kernel_rfl) (by kernel_rfl) .disable (by kernel_rfl) w
theorem b43(w:World):(callFunc 307 #[]).run Tryz.prog w = .ok (.value (.tuple #[])) w:=run_call_mark0 Tryz.func307 (by kernel_rfl) (by kernel_rfl) (by kernel_rfl) .enable (by kernel_rfl) w
theorem c0m(a:Addr)(w:World):(callFunc 308 #[.pointer (some a)]).run Tryz.prog w = .ok (.value (.tuple #[])) w:=run_call_marked Tryz.func308 (by kernel_rfl) (by kernel_rfl) (by kernel_rfl) .acquire (by kernel_rfl) a w
theorem c0n(a:Addr)(w:World):(callFunc 310 #[.pointer (some a)]).run Tryz.prog w = .ok (.value (.tuple #[])) w:=run_call_marked Tryz.func310 (by kernel_rfl) (by kernel_rfl) (by kernel_rfl) .releaseMerge (by kernel_rfl) a w
theorem c6U(a:Addr)(x:Value)(u:FrameMode)(w:World)(hc:w.cell? a=some x)(hz:w.frozen? a=false):
  CallsD Tryz.prog 238 #[.pointer (some a),.bool true] u w fun e u' w'=>u'=u/\(e = .returned (.tuple #[])/\w'=w.drew.setCell a (.int .u32 1)):=by
 have hc':w.drew.cell? a=some x:=by go_simp
 have hz':w.drew.frozen? a=false:=by go_simp
 have hst:=run_call_store (P:=Tryz.prog) Tryz.func270 (by kernel_rfl) (by kernel_rfl) (by kernel_rfl) (by kernel_rfl) (k:= .u32) (y:=1) hc' hz'
 go_enter_d Tryz.func238,Tryz.ntmps238
 go_wp2
 go_region_calls
 all_goals (go_end0;exact⟨rfl,rfl⟩)
theorem c0q(a:Addr)(w:World)(hc:w.cell? a=some (.int .i32 1))(hz:w.frozen? a=false):
  Calls Tryz.prog 269 #[.pointer (some a)] w fun e w'=>e = .returned (.tuple #[])/\w'=w.setCell a (.int .i32 0):=by
 have hd:=b19;have he:=b43;have hr:=c0n;have hadd:=run_call_add (P:=Tryz.prog) Tryz.func311 (by kernel_rfl) (by kernel_rfl) (by kernel_rfl) .i32 (by kernel_rfl) (y:=-1) (s:=0) hc hz (by simp[go_sem];rfl);have hcv:=run_convert_to_unsafe (P:=Tryz.prog) (src:=371) (dst:=258) Tryz.underlying371 Tryz.underlying258 (by kernel_rfl) hc
 go_enter Tryz.func269,Tryz.ntmps269
 go_wp2
 go_end0
 exact⟨rfl,rfl⟩
theorem c6R(a:Addr)(w:World)(hc:w.cell? a=some (.int .i32 0))(hz:w.frozen? a=false):
  Calls Tryz.prog 268 #[.pointer (some a)] w fun e w'=>e = .returned (.tuple #[])/\w'=w.setCell a (.int .i32 1):=by
 have hd:=b19;have he:=b43;have ha:=c0m;have hcas:=run_call_cas_hit (P:=Tryz.prog) Tryz.func306 (by kernel_rfl) (by kernel_rfl) (by kernel_rfl) .i32 (by kernel_rfl) (y:=1) hc hz;have hc':(w.setCell a (.int .i32 1)).cell? a=some (.int .i32 1):=World.cell?_setCell_same w a _ hc;have hcv:=run_convert_to_unsafe (P:=Tryz.prog) (src:=371) (dst:=258) Tryz.underlying371 Tryz.underlying258 (by kernel_rfl) hc'
 go_enter Tryz.func268,Tryz.ntmps268
 go_wp2
 first|go_end0|(simp only[Exit.inBlock,Exit.then];refine bodyPost_ret (results_none rfl _ _ _) rfl ?_)|refine bodyPost_ret (results_none rfl _ _ _) rfl ?_
 exact⟨rfl,rfl⟩
theorem d2f(b off:Nat)(w:World)(hc:w.cell? ⟨b,off,none⟩=some (.int .i32 0))(hz:w.frozen? ⟨b,off,none⟩=false):
  Calls Tryz.prog 236 #[.pointer (some ⟨b,off,none⟩)] w fun e w'=>e = .returned (.tuple #[])/\w'=w.setCell ⟨b,off,none⟩ (.int .i32 1):=by
 go_enter Tryz.func236,Tryz.ntmps236
 go_wp2_with (go_at_call 268;refine(c6R ⟨b,off,none⟩ _ hc hz).mono ?_;rintro e w' ⟨rfl,rfl⟩)
 go_end0
 exact⟨rfl,rfl⟩
theorem c4B(b off:Nat)(u:FrameMode)(w:World)(hc:w.cell? ⟨b,off,none⟩=some (.int .i32 1))(hz:w.frozen? ⟨b,off,none⟩=false):
  CallsD Tryz.prog 237 #[.pointer (some ⟨b,off,none⟩)] u w fun e u' w'=>u'=u/\(e = .returned (.tuple #[])/\w'=w.setCell ⟨b,off,none⟩ (.int .i32 0)):=by
 go_enter_d Tryz.func237,Tryz.ntmps237
 go_wp2_with (go_at_call 269;refine(c0q ⟨b,off,none⟩ _ hc hz).mono ?_;rintro e w' ⟨rfl,rfl⟩)
 go_end0
 exact⟨rfl,rfl⟩
set_option maxHeartbeats 1600000 in
theorem d2i(b off:Nat)(first:Array Value)(S:World->Prop)(w:World)
  (h0:w.cell? ⟨b,off,none⟩=some (.int .u32 0)) (h1:w.cell? ⟨b,off+1,none⟩=some (.int .i32 0)) (f0:w.frozen? ⟨b,off,none⟩=false) (f1:w.frozen? ⟨b,off+1,none⟩=false)
  (hg:Calls Tryz.prog 161 first (w.setCell ⟨b,off+1,none⟩ (.int .i32 1)) fun e w'=>e = .returned (.tuple #[])/\S w')
  (hS:∀w',S w'->w'.cell? ⟨b,off,none⟩=some (.int .u32 0)/\w'.cell? ⟨b,off+1,none⟩=some (.int .i32 1)/\w'.frozen? ⟨b,off,none⟩=false/\w'.frozen? ⟨b,off+1,none⟩=false):
  Calls Tryz.prog 204 #[.pointer (some ⟨b,off,none⟩),.func (.func 161) first #[]] w fun e w'=>e = .returned (.tuple #[])/\
   ∃w2,S w2/\w'=(w2.drew.setCell ⟨b,off,none⟩ (.int .u32 1)).setCell ⟨b,off+1,none⟩ (.int .i32 0):=by
 have hl:=run_call_load (P:=Tryz.prog) Tryz.func235 (by kernel_rfl) (by kernel_rfl) (by kernel_rfl) .u32 (by kernel_rfl) (w:=w.setCell ⟨b,off+1,none⟩ (.int .i32 1)) (a:=⟨b,off,none⟩) (x:=0) ((World.cell?_setCell_other _ ⟨b,off+1,none⟩ ⟨b,off,none⟩ _ (by simp)).trans h0);have hnot:∀(x:Bool) (w:World),(Op.unary .not (.bool x)).run Tryz.prog w = .ok (.bool (!x)) w:=fun _ _=>rfl
 go_enter_defers Tryz.func204,Tryz.ntmps204
 go_wp2_with (first
  |(go_at_call 236;refine(d2f b (off+1) _ (by go_simp) (by go_simp)).mono ?_;rintro e w' ⟨rfl,rfl⟩)
  |(go_at_call 203;go_in)
  |(go_at_call 161;refine hg.mono ?_;rintro e w2 ⟨rfl,hs2⟩))
 obtain⟨k1,k2,k3,k4⟩:=hS _ hs2;refine leaves_cons (f:=238) (args:=#[.pointer (some ⟨b,off,none⟩),.bool true]) (by simp) (by simp[go_sem]) ?_;refine(c6U ⟨b,off,none⟩ (.int .u32 0) .returning _ k1 k3).mono ?_;rintro e u' w'' ⟨rfl,rfl,rfl⟩;refine leaves_cons (f:=237) (args:=#[.pointer (some ⟨b,off+1,none⟩)]) (by simp[settle]) (by simp[go_sem]) ?_;refine(c4B b (off+1) _ _ ?_ (by simp[k4])).mono ?_
 ·refine(World.cell?_setCell_other _ ⟨b,off,none⟩ ⟨b,off+1,none⟩ _ (by simp)).trans ?_;rw[World.cell?_drew];exact k2
 rintro e u' w'' ⟨rfl,rfl,rfl⟩;simp[Go.Leaves,settle,results,Tryz.results204];exact⟨_,hs2,rfl⟩
theorem d7l(b off:Nat)(first:Array Value)(S:World->Prop)(w:World)
  (h0:w.cell? ⟨b,off,none⟩=some (.int .u32 0)) (h1:w.cell? ⟨b,off+1,none⟩=some (.int .i32 0)) (f0:w.frozen? ⟨b,off,none⟩=false) (f1:w.frozen? ⟨b,off+1,none⟩=false)
  (hg:Calls Tryz.prog 161 first (w.setCell ⟨b,off+1,none⟩ (.int .i32 1)) fun e w'=>e = .returned (.tuple #[])/\S w')
  (hS:∀w',S w'->w'.cell? ⟨b,off,none⟩=some (.int .u32 0)/\w'.cell? ⟨b,off+1,none⟩=some (.int .i32 1)/\w'.frozen? ⟨b,off,none⟩=false/\w'.frozen? ⟨b,off+1,none⟩=false):
  Calls Tryz.prog 160 #[.pointer (some ⟨b,off,none⟩),.func (.func 161) first #[]] w fun e w'=>e = .returned (.tuple #[])/\
   ∃w2,S w2/\w'=(w2.drew.setCell ⟨b,off,none⟩ (.int .u32 1)).setCell ⟨b,off+1,none⟩ (.int .i32 0):=by
 have hl:=run_call_load (P:=Tryz.prog) Tryz.func235 (by kernel_rfl) (by kernel_rfl) (by kernel_rfl) .u32 (by kernel_rfl) h0;have hnot:∀(x:Bool) (w:World),(Op.unary .not (.bool x)).run Tryz.prog w = .ok (.bool (!x)) w:=fun _ _=>rfl
 go_enter Tryz.func160,Tryz.ntmps160
 go_wp2_with (first
  |(go_at_call 204;refine(d2i b off first S _ h0 h1 f0 f1 hg hS).mono ?_;rintro e w' ⟨rfl,w2,k1,rfl⟩)
  |(go_at_call 203;go_in))
 go_end0
 exact⟨rfl,_,k1,rfl⟩
end
section
def rpS(l:List UInt8):Value:= .string ⟨l.toArray⟩
def a49:List Value:=[rpS [92],rpS [92,92],rpS [34],rpS [92,34],rpS [10],rpS [92,110]]
theorem a7E:ElemT Tryz.prog 65 9 1 16:=ElemT.mk_ Tryz.underlying65 (z:= .string ⟨#[]⟩) (by kernel_rfl) rfl (by decide) (by decide)
theorem a5Q{w:World}{base:Nat}{e:TypeId}{size:Nat}{v:Value}{n:Nat}{xs:List Value}(h:w.ownsRow base e size v n xs)(hn:n≠0):∃A c,v = .slice A n c:=by
 rcases h.2 with⟨rfl,rfl⟩|⟨g',cap,cur,rfl,_⟩
 ·exact⟨none,0,rfl⟩
 ·exact⟨_,_,rfl⟩
theorem d5p(ad:Addr)(w:World)(hrow:Row w (some ad) a49):
  Calls Tryz.prog 112 #[.slice (some ad) 6 6] w fun e w'=>∃(R:Nat) (v:Value),e = .returned (.pointer (some ⟨R,0,none⟩))/\Ext w w'/\w.heap.size<=R/\
   w'.heap[R]? = some (.cells #[.int .u32 0,.int .i32 0,.int .u32 0,.nilIface,v] 226 (0,0))/\w'.ownsRow w.heap.size 9 1 v 6 a49:=by
 go_enter Tryz.func112,Tryz.ntmps112
 go_wp2_with (at_builtin;refine c7j (w0:=w) rfl a7E rfl (v:= .slice none 0 0) (n:=0) (xs:=[]) ⟨rfl,.inl ⟨rfl,rfl⟩⟩ (Ext.refl w) rfl (A:=some ad) (m:=6) (c:=6) (news:=a49) hrow rfl rfl (by decide) (by omega) ?_;intro v' w2 hown hE hg hb hz;obtain⟨A,c,rfl⟩:=a5Q hown (by decide))
 go_ret
 refine⟨w2.heap.size,.slice A 6 c,rfl,hE.alloc _,hE.size,?_,hown.alloc _⟩;show(w2.heap.push _)[w2.heap.size]? = _;exact Array.getElem?_push_size
end
end Go.Proofs.YtolpmfhiegpohaaGreatDoor
