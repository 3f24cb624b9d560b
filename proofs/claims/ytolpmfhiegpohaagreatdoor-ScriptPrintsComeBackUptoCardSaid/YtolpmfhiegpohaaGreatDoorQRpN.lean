/- % -/
import Derived.Test.YtolpmfhiegpohaaGreatDoorQPaF11
import Derived.Test.YtolpmfhiegpohaaGreatDoorProg
import Derived.Test.YtolpmfhiegpohaaGreatDoorQBm4
import Derived.Defers
import Derived.Laws.Pointers
import Derived.Laws.LoneSync
import Derived.RegionTactic
import Derived.RegionCalls
import Derived.ChangeAlike
namespace Go.Proofs.YtolpmfhiegpohaaGreatDoor
set_option maxRecDepth 100000
set_option linter.unusedVariables false
set_option linter.unusedSimpArgs false
open Go Go.RowKit
noncomputable section
noncomputable section
def m5(N:Nat)(x0:GExpr)(x1:Int):Option Int:=j8 (br (x0.kind==(1:Int)) (some true) (some (x0.kind==(3:Int)))) fun j5=>br (x0.kind==(1:Int)) (br (decide (x1>=(30:Int))) (some (2:Int)) (j8 (br (decide (x0.kind<(1:Int))) (some true) (some (decide (x0.kind>(8:Int))))) fun j28=>br (j28) (some (4:Int)) (j8 (br (x0.kind==(3:Int)) (j8 (G5 N x0.text) fun t44=>some (!t44)) (some false)) fun j37=>br (j37) (some (5:Int)) (j8 (br (!j5) (some (!(x0.text==([]:d9)))) (some false)) fun j47=>br (j47) (some (3:Int)) (j8 (br (x0.number !=(0:Int)) (some (x0.kind !=(2:Int))) (some false)) fun j47_1=>br (j47_1) (some (3:Int)) (j8 (br (decide ((x0.keys.length:Int)>(0:Int))) (some (x0.kind !=(6:Int))) (some false)) fun j47_2=>br (j47_2) (some (3:Int)) (j8 (j8 (y8 N x0.text) fun t75=>br (!t75) (some true) (j8 (l9 N x0.keys ()) fun t80=>some t80)) fun j72=>br (j72) (some (3:Int)) (j8 (br (decide (x0.number<(0:Int))) (some true) (some (decide (x0.number>(999999999:Int))))) fun j82=>br (j82) (some (3:Int)) (j8 (br (decide ((0:Int)>=(0:Int))) (some ((x0.kids.length:Int) !=(0:Int))) (some false)) fun j82_3=>br (j82_3) (some (3:Int)) (j8 (br (x0.kind==(6:Int)) (br ((x0.keys.length:Int) !=(x0.kids.length:Int)) (some true) (some ((x0.keys.length:Int)==(0:Int)))) (some false)) fun j100=>br (j100) (some (3:Int)) (j8 (a0h N x0.keys) fun t122=>br (t122) (some (7:Int)) (some (0:Int))))))))))))) (br (x0.kind==(2:Int)) (br (decide (x1>=(30:Int))) (some (2:Int)) (j8 (br (decide (x0.kind<(1:Int))) (some true) (some (decide (x0.kind>(8:Int))))) fun j28_4=>br (j28_4) (some (4:Int)) (j8 (br (x0.kind==(3:Int)) (j8 (G5 N x0.text) fun t44_5=>some (!t44_5)) (some false)) fun j37_6=>br (j37_6) (some (5:Int)) (j8 (br (!j5) (some (!(x0.text==([]:d9)))) (some false)) fun j47_7=>br (j47_7) (some (3:Int)) (j8 (br (x0.number !=(0:Int)) (some (x0.kind !=(2:Int))) (some false)) fun j47_8=>br (j47_8) (some (3:Int)) (j8 (br (decide ((x0.keys.length:Int)>(0:Int))) (some (x0.kind !=(6:Int))) (some false)) fun j47_9=>br (j47_9) (some (3:Int)) (j8 (j8 (y8 N x0.text) fun t75_10=>br (!t75_10) (some true) (j8 (l9 N x0.keys ()) fun t80_11=>some t80_11)) fun j72_12=>br (j72_12) (some (3:Int)) (j8 (br (decide (x0.number<(0:Int))) (some true) (some (decide (x0.number>(999999999:Int))))) fun j82_13=>br (j82_13) (some (3:Int)) (j8 (br (decide ((0:Int)>=(0:Int))) (some ((x0.kids.length:Int) !=(0:Int))) (some false)) fun j82_14=>br (j82_14) (some (3:Int)) (j8 (br (x0.kind==(6:Int)) (br ((x0.keys.length:Int) !=(x0.kids.length:Int)) (some true) (some ((x0.keys.length:Int)==(0:Int)))) (some false)) fun j100_15=>br (j100_15) (some (3:Int)) (j8 (a0h N x0.keys) fun t122_16=>br (t122_16) (some (7:Int)) (some (0:Int))))))))))))) (br (x0.kind==(3:Int)) (br (decide (x1>=(30:Int))) (some (2:Int)) (j8 (br (decide (x0.kind<(1:Int))) (some true) (some (decide (x0.kind>(8:Int))))) fun j28_17=>br (j28_17) (some (4:Int)) (j8 (br (x0.kind==(3:Int)) (j8 (G5 N x0.text) fun t44_18=>some (!t44_18)) (some false)) fun j37_19=>br (j37_19) (some (5:Int)) (j8 (br (!j5) (some (!(x0.text==([]:d9)))) (some false)) fun j47_20=>br (j47_20) (some (3:Int)) (j8 (br (x0.number !=(0:Int)) (some (x0.kind !=(2:Int))) (some false)) fun j47_21=>br (j47_21) (some (3:Int)) (j8 (br (decide ((x0.keys.length:Int)>(0:Int))) (some (x0.kind !=(6:Int))) (some false)) fun j47_22=>br (j47_22) (some (3:Int)) (j8 (j8 (y8 N x0.text) fun t75_23=>br (!t75_23) (some true) (j8 (l9 N x0.keys ()) fun t80_24=>some t80_24)) fun j72_25=>br (j72_25) (some (3:Int)) (j8 (br (decide (x0.number<(0:Int))) (some true) (some (decide (x0.number>(999999999:Int))))) fun j82_26=>br (j82_26) (some (3:Int)) (j8 (br (decide ((0:Int)>=(0:Int))) (some ((x0.kids.length:Int) !=(0:Int))) (some false)) fun j82_27=>br (j82_27) (some (3:Int)) (j8 (br (x0.kind==(6:Int)) (br ((x0.keys.length:Int) !=(x0.kids.length:Int)) (some true) (some ((x0.keys.length:Int)==(0:Int)))) (some false)) fun j100_28=>br (j100_28) (some (3:Int)) (j8 (a0h N x0.keys) fun t122_29=>br (t122_29) (some (7:Int)) (some (0:Int))))))))))))) (br (x0.kind==(5:Int)) (br (decide (x1>=(30:Int))) (some (2:Int)) (j8 (br (decide (x0.kind<(1:Int))) (some true) (some (decide (x0.kind>(8:Int))))) fun j28_30=>br (j28_30) (some (4:Int)) (j8 (br (x0.kind==(3:Int)) (j8 (G5 N x0.text) fun t44_31=>some (!t44_31)) (some false)) fun j37_32=>br (j37_32) (some (5:Int)) (j8 (br (!j5) (some (!(x0.text==([]:d9)))) (some false)) fun j47_33=>br (j47_33) (some (3:Int)) (j8 (br (x0.number !=(0:Int)) (some (x0.kind !=(2:Int))) (some false)) fun j47_34=>br (j47_34) (some (3:Int)) (j8 (br (decide ((x0.keys.length:Int)>(0:Int))) (some (x0.kind !=(6:Int))) (some false)) fun j47_35=>br (j47_35) (some (3:Int)) (j8 (j8 (y8 N x0.text) fun t75_36=>br (!t75_36) (some true) (j8 (l9 N x0.keys ()) fun t80_37=>some t80_37)) fun j72_38=>br (j72_38) (some (3:Int)) (j8 (br (decide (x0.number<(0:Int))) (some true) (some (decide (x0.number>(999999999:Int))))) fun j82_39=>br (j82_39) (some (3:Int)) (j8 (br (decide ((2:Int)>=(0:Int))) (some ((x0.kids.length:Int) !=(2:Int))) (some false)) fun j82_40=>br (j82_40) (some (3:Int)) (j8 (br (x0.kind==(6:Int)) (br ((x0.keys.length:Int) !=(x0.kids.length:Int)) (some true) (some ((x0.keys.length:Int)==(0:Int)))) (some false)) fun j100_41=>br (j100_41) (some (3:Int)) (j8 (a0h N x0.keys) fun t122_42=>br (t122_42) (some (7:Int)) (some (0:Int))))))))))))) (br (x0.kind==(7:Int)) (br (decide (x1>=(30:Int))) (some (2:Int)) (j8 (br (decide (x0.kind<(1:Int))) (some true) (some (decide (x0.kind>(8:Int))))) fun j28_43=>br (j28_43) (some (4:Int)) (j8 (br (x0.kind==(3:Int)) (j8 (G5 N x0.text) fun t44_44=>some (!t44_44)) (some false)) fun j37_45=>br (j37_45) (some (5:Int)) (j8 (br (!j5) (some (!(x0.text==([]:d9)))) (some false)) fun j47_46=>br (j47_46) (some (3:Int)) (j8 (br (x0.number !=(0:Int)) (some (x0.kind !=(2:Int))) (some false)) fun j47_47=>br (j47_47) (some (3:Int)) (j8 (br (decide ((x0.keys.length:Int)>(0:Int))) (some (x0.kind !=(6:Int))) (some false)) fun j47_48=>br (j47_48) (some (3:Int)) (j8 (j8 (y8 N x0.text) fun t75_49=>br (!t75_49) (some true) (j8 (l9 N x0.keys ()) fun t80_50=>some t80_50)) fun j72_51=>br (j72_51) (some (3:Int)) (j8 (br (decide (x0.number<(0:Int))) (some true) (some (decide (x0.number>(999999999:Int))))) fun j82_52=>br (j82_52) (some (3:Int)) (j8 (br (decide ((2:Int)>=(0:Int))) (some ((x0.kids.length:Int) !=(2:Int))) (some false)) fun j82_53=>br (j82_53) (some (3:Int)) (j8 (br (x0.kind==(6:Int)) (br ((x0.keys.length:Int) !=(x0.kids.length:Int)) (some true) (some ((x0.keys.length:Int)==(0:Int)))) (some false)) fun j100_54=>br (j100_54) (some (3:Int)) (j8 (a0h N x0.keys) fun t122_55=>br (t122_55) (some (7:Int)) (some (0:Int))))))))))))) (br (x0.kind==(8:Int)) (br (decide (x1>=(30:Int))) (some (2:Int)) (j8 (br (decide (x0.kind<(1:Int))) (some true) (some (decide (x0.kind>(8:Int))))) fun j28_56=>br (j28_56) (some (4:Int)) (j8 (br (x0.kind==(3:Int)) (j8 (G5 N x0.text) fun t44_57=>some (!t44_57)) (some false)) fun j37_58=>br (j37_58) (some (5:Int)) (j8 (br (!j5) (some (!(x0.text==([]:d9)))) (some false)) fun j47_59=>br (j47_59) (some (3:Int)) (j8 (br (x0.number !=(0:Int)) (some (x0.kind !=(2:Int))) (some false)) fun j47_60=>br (j47_60) (some (3:Int)) (j8 (br (decide ((x0.keys.length:Int)>(0:Int))) (some (x0.kind !=(6:Int))) (some false)) fun j47_61=>br (j47_61) (some (3:Int)) (j8 (j8 (y8 N x0.text) fun t75_62=>br (!t75_62) (some true) (j8 (l9 N x0.keys ()) fun t80_63=>some t80_63)) fun j72_64=>br (j72_64) (some (3:Int)) (j8 (br (decide (x0.number<(0:Int))) (some true) (some (decide (x0.number>(999999999:Int))))) fun j82_65=>br (j82_65) (some (3:Int)) (j8 (br (decide ((2:Int)>=(0:Int))) (some ((x0.kids.length:Int) !=(2:Int))) (some false)) fun j82_66=>br (j82_66) (some (3:Int)) (j8 (br (x0.kind==(6:Int)) (br ((x0.keys.length:Int) !=(x0.kids.length:Int)) (some true) (some ((x0.keys.length:Int)==(0:Int)))) (some false)) fun j100_67=>br (j100_67) (some (3:Int)) (j8 (a0h N x0.keys) fun t122_68=>br (t122_68) (some (7:Int)) (some (0:Int))))))))))))) (br (decide (x1>=(30:Int))) (some (2:Int)) (j8 (br (decide (x0.kind<(1:Int))) (some true) (some (decide (x0.kind>(8:Int))))) fun j28_69=>br (j28_69) (some (4:Int)) (j8 (br (x0.kind==(3:Int)) (j8 (G5 N x0.text) fun t44_70=>some (!t44_70)) (some false)) fun j37_71=>br (j37_71) (some (5:Int)) (j8 (br (!j5) (some (!(x0.text==([]:d9)))) (some false)) fun j47_72=>br (j47_72) (some (3:Int)) (j8 (br (x0.number !=(0:Int)) (some (x0.kind !=(2:Int))) (some false)) fun j47_73=>br (j47_73) (some (3:Int)) (j8 (br (decide ((x0.keys.length:Int)>(0:Int))) (some (x0.kind !=(6:Int))) (some false)) fun j47_74=>br (j47_74) (some (3:Int)) (j8 (j8 (y8 N x0.text) fun t75_75=>br (!t75_75) (some true) (j8 (l9 N x0.keys ()) fun t80_76=>some t80_76)) fun j72_77=>br (j72_77) (some (3:Int)) (j8 (br (decide (x0.number<(0:Int))) (some true) (some (decide (x0.number>(999999999:Int))))) fun j82_78=>br (j82_78) (some (3:Int)) (j8 (br (decide ((-1:Int)>=(0:Int))) (some ((x0.kids.length:Int) !=(-1:Int))) (some false)) fun j82_79=>br (j82_79) (some (3:Int)) (j8 (br (x0.kind==(6:Int)) (br ((x0.keys.length:Int) !=(x0.kids.length:Int)) (some true) (some ((x0.keys.length:Int)==(0:Int)))) (some false)) fun j100_80=>br (j100_80) (some (3:Int)) (j8 (a0h N x0.keys) fun t122_81=>br (t122_81) (some (7:Int)) (some (0:Int))))))))))))))))))
abbrev e0K:=sgM [.v τ3,.v τ2] [] [.v τ2] [] (Int) fun z=>((z,()),())
abbrev d5G(N:Nat):AF:=e0K fun x _=>m5 N x.1 x.2.1
def d01(N:Nat):FuncId->Option Tmp->Option AF:=fun f _=>t7 [(135,d6T N),(142,z0g N),(144,f7z N),(145,f7I N)] f
theorem d02(N:Nat):a1f (d01 N):=fun _ _ _ h=>D7 h (Q3 (c2i N) (Q3 (d5w N) (Q3 (e5p N) (Q3 (e4U N) lkn))))
def e0J:Nat->Hint:=fun i=>
 match i with
 |_=>B8
abbrev e3r(N:Nat):Env:=mkE e0J (d01 N) FF FF |>.jk (fun i=>match i with|1=>some 5|14=>some 28|16=>some 37|18=>some 47|19=>some 47|20=>some 47|22=>some 72|24=>some 82|25=>some 82|27=>some 100|_=>none)
theorem c1P(N:Nat):Snd 146 (d5G N):=
 b0u (e3r N) (EnvOk.jk (P8 e0J (d01 N) _ _ (d02 N)) _) Tryz.func146 rfl Tryz.call146 (d5G N) (fun x _=>x.1) (fun _ _=>rfl) N (fun _ _=>by kernel_rfl) rfl
def S5(_N:Nat)(x0:GExpr)(x1:Int):Option Bool:=j8 (m7 x0.kids x1) fun t9=>br (x0.kind==(7:Int)) (j8 (br (t9.kind==(8:Int)) (some true) (br (t9.kind==(7:Int)) (some (x1==(1:Int))) (some false))) fun j4=>some j4) (br (x0.kind==(8:Int)) (some (t9.kind==(8:Int))) (some false))
abbrev c14:=sgM [.v τ3,.v τ2] [] [.v .bool] [] (Bool) fun z=>((z,()),())
abbrev f0x(N:Nat):AF:=c14 fun x _=>S5 N x.1 x.2.1
def e8k(_N:Nat):FuncId->Option Tmp->Option AF:=fun f _=>t7 [] f
theorem e8l(N:Nat):a1f (e8k N):=fun _ _ _ h=>D7 h lkn
def f1d:Nat->Hint:=fun i=>
 match i with
 |_=>B8
abbrev f1V(N:Nat):Env:=mkE f1d (e8k N) FF FF |>.jk (fun i=>match i with|4=>some 4|_=>none)
theorem c16(N:Nat):Snd 108 (f0x N):=
 b0u (f1V N) (EnvOk.jk (P8 f1d (e8k N) _ _ (e8l N)) _) Tryz.func108 rfl Tryz.call108 (f0x N) (fun x _=>x.1) (fun _ _=>rfl) N (fun _ _=>by kernel_rfl) rfl
abbrev e1U:=sgM [.v τ3,.v τ2] [] [.v τ2] [] (Int) fun z=>((z,()),())
def f0o(N:Nat)(j6:ρ17)(x1:Int)(c17:List GExpr)(c18:Int)(κ2_0:Int)(κ2_1:d9)(κ2_2:Int)(κ2_3:List d9)(κ2_4:List GExpr)(k0:Option Int)(self:ρ21)(s19:Int):Option Int:=br (decide (s19<c18)) (j8 (m7 c17 s19) fun t22=>br (κ2_0 !=(7:Int)) (j8 (S5 N (GExpr.mk κ2_0 κ2_1 κ2_2 κ2_3 κ2_4) s19) fun t32=>br (t32) (j8 (j6 (Ze t22) (IntKind.i64.wrap ((IntKind.i64.wrap (x1+(1:Int)))+(1:Int)))) fun t37=>br (t37 !=(0:Int)) (some t37) (self (IntKind.i64.wrap (s19+(1:Int))))) (j8 (j6 (Ze t22) (IntKind.i64.wrap (x1+(1:Int)))) fun t37_1=>br (t37_1 !=(0:Int)) (some t37_1) (self (IntKind.i64.wrap (s19+(1:Int)))))) (j8 (S5 N (GExpr.mk κ2_0 κ2_1 κ2_2 κ2_3 κ2_4) s19) fun t32_2=>br (t32_2) (j8 (j6 (Ze t22) (IntKind.i64.wrap (x1+(1:Int)))) fun t37_3=>br (t37_3 !=(0:Int)) (some t37_3) (self (IntKind.i64.wrap (s19+(1:Int))))) (j8 (j6 (Ze t22) x1) fun t37_4=>br (t37_4 !=(0:Int)) (some t37_4) (self (IntKind.i64.wrap (s19+(1:Int))))))) (k0)
def f0e(N:Nat)(j6:ρ17)(x1:Int)(c17:List GExpr)(c18:Int)(κ2_0:Int)(κ2_1:d9)(κ2_2:Int)(κ2_3:List d9)(κ2_4:List GExpr)(k0:Option Int):Nat->Int->Option Int|0,_=>none|n+1,s19=>f0o N j6 x1 c17 c18 κ2_0 κ2_1 κ2_2 κ2_3 κ2_4 k0 (f0e N j6 x1 c17 c18 κ2_0 κ2_1 κ2_2 κ2_3 κ2_4 k0 n) s19
def E8(N:Nat)(j6:ρ17)(x0:GExpr)(x1:Int):Option Int:=j8 (m5 N (Ze x0) x1) fun t12=>br (t12 !=(0:Int)) (some t12) (f0e N j6 x1 x0.kids (x0.kids.length:Int) x0.kind x0.text x0.number x0.keys x0.kids (some (0:Int)) N (0:Int))
abbrev e1t:=sgM [.v τ3,.v τ2] [] [.v τ2] [] (Int) fun z=>((z,()),())
abbrev d6g(N:Nat)(j6:ρ17):AF:=e1t fun x _=>E8 N j6 x.1 x.2.1
abbrev f8S:SV [.v τ2]->BV []->Int:=fun x _=>x.1
def f3D(N:Nat)(j6:ρ17):FuncId->Option Tmp->Option AF:=fun f _=>t7 [(87,e1U fun x _=>j6 x.1 x.2.1),(108,f0x N),(146,d5G N)] f
theorem f3E(N:Nat)(j6:ρ17)(a1T:Sound Tryz.prog GW B0G 87 (e1U fun x y=>j6 x.1 x.2.1)):∀f q F,f3D N j6 f q=some F->Sound Tryz.prog GW B0G f F:=fun _ _ _ h=>D7 h (Q3 (a1T) (Q3 (c16 N) (Q3 (c1P N) lkn)))
def f3h:Nat->Hint:=fun i=>
 match i with
 |0=>⟨[],[1,2,17,18,19],[1002],[],[],[]⟩
 |_=>B8
abbrev f6z(N:Nat)(j6:ρ17):Env:=mkE f3h (f3D N j6) (fun _=>false) (fun _=>false) |>.jk (fun _=>none)
abbrev f7r(N:Nat)(j6:ρ17):=P5 (f6z N j6) Tryz.f87 (d6g N j6) f8S
noncomputable abbrev f6N:Code:=cAt (C3 Tryz.f87) [true,true,false,true,false,false]
abbrev e5j:List (Nat×Sl):=[(1,.v τ2),(2,.box 1002 0),(17,.v (.sl τ3)),(18,.v τ2),(19,.v τ2)]
abbrev e5i:List (Nat×Sb):=[(1002,.cells [.v τ2,.v .str,.v τ2,.v τ13,.v (.sl τ3)])]
def f0q(x1:Int)(c17:List GExpr)(c18:Int)(κ2_0:Int)(κ2_1:d9)(κ2_2:Int)(κ2_3:List d9)(κ2_4:List GExpr)(s19:Int):St:=⟨42,[(1,.v τ2 x1),(2,.box 1002 0),(17,.v (.sl τ3) c17),(18,.v τ2 c18),(19,.v τ2 s19)],[(1002,.cells [.v τ2 κ2_0,.v .str κ2_1,.v τ2 κ2_2,.v τ13 κ2_3,.v (.sl τ3) κ2_4])]⟩
def f4d(_x1:Int)(_c17:List GExpr)(_c18:Int)(_κ2_0:Int)(_κ2_1:d9)(_κ2_2:Int)(_κ2_3:List d9)(_κ2_4:List GExpr):St:=⟨42,[],[]⟩
def f4x(N:Nat)(j6:ρ17)(x1:Int)(c17:List GExpr)(c18:Int)(κ2_0:Int)(κ2_1:d9)(κ2_2:Int)(κ2_3:List d9)(κ2_4:List GExpr)(s19:Int)(k:Ex->St->Option Int):Option Int:=f0e N j6 x1 c17 c18 κ2_0 κ2_1 κ2_2 κ2_3 κ2_4 (k (.exit 0) (f4d x1 c17 c18 κ2_0 κ2_1 κ2_2 κ2_3 κ2_4)) N s19
abbrev f2T(N:Nat)(j6:ρ17):FV e5j->HV e5i->(Ex->St->Option Int)->Option Int:=fun x y k=>f4x N j6 x.1 x.2.2.1 x.2.2.2.1 y.1.1 y.1.2.1 y.1.2.2.1 y.1.2.2.2.1 y.1.2.2.2.2.1 x.2.2.2.2.1 k
def f0K(N:Nat)(j6:ρ17):Nat->Code->St->(Ex->St->Option Int)->Option Int:=fun i c=>
 match i with
 |0=>(LPc 42 e5j e5i (f2T N j6) (fun st k=>iter (f3h 0) (q7 (f6z N j6) N c 0) N st k))
 |i=>fun st k=>iter (f3h i) (q7 (f6z N j6) N c i) N st k
theorem f2v(N:Nat)(j6:ρ17)(x1:Int)(c17:List GExpr)(c18:Int)(κ2_0:Int)(κ2_1:d9)(κ2_2:Int)(κ2_3:List d9)(κ2_4:List GExpr)(KX:Nat->St->Option Int)(I:St->Option Int)(s19:Int):
  s4 (f0K N j6) (f6z N j6) f6N 0 (f0q x1 c17 c18 κ2_0 κ2_1 κ2_2 κ2_3 κ2_4 s19) (I2 (f3h 0) I KX (f7r N j6))=f0o N j6 x1 c17 c18 κ2_0 κ2_1 κ2_2 κ2_3 κ2_4 (KX 0 (f4d x1 c17 c18 κ2_0 κ2_1 κ2_2 κ2_3 κ2_4)) (fun s19=>I (f0q x1 c17 c18 κ2_0 κ2_1 κ2_2 κ2_3 κ2_4 s19)) s19:=by kernel_rfl
theorem f3C(N:Nat)(j6:ρ17):∀x y k,(∀st,k .ret st=(f7r N j6) st)->iter (f3h 0) (q7 (f6z N j6) N f6N 0) N ⟨42,unF e5j x,unH e5i y⟩ k=f2T N j6 x y k:=fun x y k hk=>
 s5 (S:=(Int)×Unit) (f3h 0) _ (s4 (f0K N j6) (f6z N j6) f6N 0) (f7r N j6) (x9 _ _ N _ f6N 0 (show LoopsOk (f0K N j6) (f6z N j6) N (f7r N j6) []from trivial)) (fun s=>f0q x.1 x.2.2.1 x.2.2.2.1 y.1.1 y.1.2.1 y.1.2.2.1 y.1.2.2.2.1 y.1.2.2.2.2.1 s.1) k hk
  (fun self s=>f0o N j6 x.1 x.2.2.1 x.2.2.2.1 y.1.1 y.1.2.1 y.1.2.2.1 y.1.2.2.2.1 y.1.2.2.2.2.1 (k (.exit 0) (f4d x.1 x.2.2.1 x.2.2.2.1 y.1.1 y.1.2.1 y.1.2.2.1 y.1.2.2.2.1 y.1.2.2.2.2.1)) (fun s19=>self (s19,())) s.1) (fun n s=>f0e N j6 x.1 x.2.2.1 x.2.2.2.1 y.1.1 y.1.2.1 y.1.2.2.1 y.1.2.2.2.1 y.1.2.2.2.2.1 (k (.exit 0) (f4d x.1 x.2.2.1 x.2.2.2.1 y.1.1 y.1.2.1 y.1.2.2.1 y.1.2.2.2.1 y.1.2.2.2.2.1)) n s.1) (fun _=>rfl) (fun _ _=>rfl)
  (fun I s=>f2v N j6 x.1 x.2.2.1 x.2.2.2.1 y.1.1 y.1.2.1 y.1.2.2.1 y.1.2.2.2.1 y.1.2.2.2.2.1 (fun j=>k (.exit j)) I s.1) N (x.2.2.2.2.1,())
theorem f5h(N:Nat)(j6:ρ17):a1g (f0K N j6) (f6z N j6) N (f7r N j6) 0 f6N:=fun st k hk=>J8 42 e5j e5i _ _ (f7r N j6) (f3C N j6) _ st k hk (rfl)
theorem f4y(N:Nat)(j6:ρ17)(x:SV [.v τ3,.v τ2])(y:BV []):a0f (f6z N j6) Tryz.f87 (d6g N j6) f8S (f0K N j6) x y=E8 N j6 x.1 x.2.1:=by kernel_rfl
theorem c1V(N:Nat)(j6:ρ17)(a1T:Sound Tryz.prog GW B0G 87 (e1U fun x y=>j6 x.1 x.2.1)):Sound Tryz.prog GW B0G 87 (d6g N j6):=
 b48 (EnvOk.jk (P8 f3h (f3D N j6) _ _ (f3E N j6 a1T)) _) Tryz.func87 rfl Tryz.call87 (d6g N j6) f8S (fun _ _=>rfl) N (f0K N j6) (show LoopsOk (f0K N j6) (f6z N j6) N (f7r N j6) [(0,f6N)]from⟨f5h N j6,trivial⟩) (f4y N j6)
def w8(N:Nat):Nat->GExpr->Int->Option (Int)|0=>fun _ _=>none|d+1=>E8 N (w8 N d)
theorem d3L(N:Nat):∀d,Sound Tryz.prog GW B0G 87 (e1U fun x y=>w8 N d x.1 x.2.1)
 |0=>Sound.never Tryz.call87 (fun _ _=>rfl)
 |d+1=>c1V N (w8 N d) (d3L N d)
abbrev e0H:=sgM [.v τ4,.v τ2] [] [.v τ2] [] (Int) fun z=>((z,()),())
def e7d(N:Nat)(d5:ρ14)(x1:Int)(c38:List (d9×GExpr))(c39:Int)(k2:Option Int)(self:ρ21)(s40:Int):Option Int:=br (decide (s40<c39)) (j8 (m7 c38 s40) fun t42=>j8 (w8 N N (Ze t42.2) (IntKind.i64.wrap (x1+(1:Int)))) fun t48=>br (t48 !=(0:Int)) (some t48) (self (IntKind.i64.wrap (s40+(1:Int))))) (k2)
def f12(N:Nat)(d5:ρ14)(x1:Int)(c38:List (d9×GExpr))(c39:Int)(k2:Option Int):Nat->Int->Option Int|0,_=>none|n+1,s40=>e7d N d5 x1 c38 c39 k2 (f12 N d5 x1 c38 c39 k2 n) s40
def a47(N:Nat)(d5:ρ14)(x1:Int)(x0:List GStmt)(c15:Int)(k0:Option Int)(self:ρ21)(s16:Int):Option Int:=br (decide (s16<c15)) (j8 (m7 x0 s16) fun t18=>j8 (H9 N (GStmt.mk t18.kind t18.name t18.text t18.params t18.args (Ze t18.expr) t18.body t18.els t18.at_) x1) fun t22=>br (t22 !=(0:Int)) (some t22) (j8 (K7 N (GStmt.mk t18.kind t18.name t18.text t18.params t18.args (Ze t18.expr) t18.body t18.els t18.at_)) fun t27=>br (t27.2.2.2.2.1) (j8 (w8 N N (Ze t18.expr) (IntKind.i64.wrap (x1+(1:Int)))) fun t33=>br (t33 !=(0:Int)) (some t33) (f12 N d5 x1 t18.args (t18.args.length:Int) (j8 (d5 t18.body (IntKind.i64.wrap (x1+(1:Int)))) fun t57=>br (t57 !=(0:Int)) (some t57) (j8 (d5 t18.els (IntKind.i64.wrap (x1+(1:Int)))) fun t65=>br (t65 !=(0:Int)) (some t65) (self (IntKind.i64.wrap (s16+(1:Int)))))) N (0:Int))) (f12 N d5 x1 t18.args (t18.args.length:Int) (j8 (d5 t18.body (IntKind.i64.wrap (x1+(1:Int)))) fun t57_1=>br (t57_1 !=(0:Int)) (some t57_1) (j8 (d5 t18.els (IntKind.i64.wrap (x1+(1:Int)))) fun t65_2=>br (t65_2 !=(0:Int)) (some t65_2) (self (IntKind.i64.wrap (s16+(1:Int)))))) N (0:Int)))) (k0)
def f4n(N:Nat)(d5:ρ14)(x1:Int)(x0:List GStmt)(c15:Int)(k0:Option Int):Nat->Int->Option Int|0,_=>none|n+1,s16=>a47 N d5 x1 x0 c15 k0 (f4n N d5 x1 x0 c15 k0 n) s16
def L5(N:Nat)(d5:ρ14)(x0:List GStmt)(x1:Int):Option Int:=f4n N d5 x1 x0 (x0.length:Int) (some (0:Int)) N (0:Int)
abbrev b0G:=sgM [.v τ4,.v τ2] [] [.v τ2] [] (Int) fun z=>((z,()),())
abbrev f0k(N:Nat)(d5:ρ14):AF:=b0G fun x _=>L5 N d5 x.1 x.2.1
abbrev f8D:SV [.v τ2]->BV []->Int:=fun x _=>x.1
def e7r(N:Nat)(d5:ρ14):FuncId->Option Tmp->Option AF:=fun f _=>t7 [(50,e0H fun x _=>d5 x.1 x.2.1),(84,f61 N),(86,e9C N),(87,e1U fun x _=>w8 N N x.1 x.2.1)] f
theorem e7s(N:Nat)(d5:ρ14)(Y5:Sound Tryz.prog GW B0G 50 (e0H fun x y=>d5 x.1 x.2.1)):∀f q F,e7r N d5 f q=some F->Sound Tryz.prog GW B0G f F:=fun _ _ _ h=>D7 h (Q3 (Y5) (Q3 (f5Q N) (Q3 (c13 N) (Q3 (d3L N N) lkn))))
def f03:Nat->Hint:=fun i=>
 match i with
 |0=>⟨[],[1,14,15,16],[],[],[],[]⟩
 |2=>⟨[],[1,6,14,15,16,38,39,40],[1006],[1,6,14,15,16],[1006],[]⟩
 |_=>B8
abbrev f1K(N:Nat)(d5:ρ14):Env:=mkE f03 (e7r N d5) (fun _=>false) (fun _=>false) |>.jk (fun _=>none)
abbrev f5R(N:Nat)(d5:ρ14):=P5 (f1K N d5) Tryz.f50 (f0k N d5) f8D
noncomputable abbrev f6G:Code:=cAt (C3 Tryz.f50) [true,false,true,false,false]
noncomputable abbrev f55:Code:=cAt (C3 Tryz.f50) [true,false,true,false,false,true,true,false,false,true,true,true,false,true,false,false]
abbrev f5p:List (Nat×Sl):=[(1,.v τ2),(6,.box 1006 0),(14,.v τ4),(15,.v τ2),(16,.v τ2),(38,.v (.sl τ12)),(39,.v τ2),(40,.v τ2)]
abbrev f5d:List (Nat×Sb):=[(1006,.cells [.v τ2,.v .str,.v .str,.v τ13,.v (.sl τ12),.v τ2,.v .str,.v τ2,.v τ13,.v (.sl τ3),.v τ4,.v τ4,.v τ2])]
def f54(x1:Int)(x0:List GStmt)(c15:Int)(s16:Int)(c38:List (d9×GExpr))(c39:Int)(κ6_0:Int)(κ6_1:d9)(κ6_2:d9)(κ6_3:List d9)(κ6_4:List (d9×GExpr))(κ6_5:Int)(κ6_6:d9)(κ6_7:Int)(κ6_8:List d9)(κ6_9:List GExpr)(κ6_10:List GStmt)(κ6_11:List GStmt)(κ6_12:Int)(s40:Int):St:=⟨70,[(1,.v τ2 x1),(6,.box 1006 0),(14,.v τ4 x0),(15,.v τ2 c15),(16,.v τ2 s16),(38,.v (.sl τ12) c38),(39,.v τ2 c39),(40,.v τ2 s40)],[(1006,.cells [.v τ2 κ6_0,.v .str κ6_1,.v .str κ6_2,.v τ13 κ6_3,.v (.sl τ12) κ6_4,.v τ2 κ6_5,.v .str κ6_6,.v τ2 κ6_7,.v τ13 κ6_8,.v (.sl τ3) κ6_9,.v τ4 κ6_10,.v τ4 κ6_11,.v τ2 κ6_12])]⟩
def f3m(x1:Int)(x0:List GStmt)(c15:Int)(s16:Int)(_c38:List (d9×GExpr))(_c39:Int)(κ6_0:Int)(κ6_1:d9)(κ6_2:d9)(κ6_3:List d9)(κ6_4:List (d9×GExpr))(κ6_5:Int)(κ6_6:d9)(κ6_7:Int)(κ6_8:List d9)(κ6_9:List GExpr)(κ6_10:List GStmt)(κ6_11:List GStmt)(κ6_12:Int):St:=⟨70,[(1,.v τ2 x1),(6,.box 1006 0),(14,.v τ4 x0),(15,.v τ2 c15),(16,.v τ2 s16)],[(1006,.cells [.v τ2 κ6_0,.v .str κ6_1,.v .str κ6_2,.v τ13 κ6_3,.v (.sl τ12) κ6_4,.v τ2 κ6_5,.v .str κ6_6,.v τ2 κ6_7,.v τ13 κ6_8,.v (.sl τ3) κ6_9,.v τ4 κ6_10,.v τ4 κ6_11,.v τ2 κ6_12])]⟩
def f9p(N:Nat)(d5:ρ14)(x1:Int)(x0:List GStmt)(c15:Int)(s16:Int)(c38:List (d9×GExpr))(c39:Int)(κ6_0:Int)(κ6_1:d9)(κ6_2:d9)(κ6_3:List d9)(κ6_4:List (d9×GExpr))(κ6_5:Int)(κ6_6:d9)(κ6_7:Int)(κ6_8:List d9)(κ6_9:List GExpr)(κ6_10:List GStmt)(κ6_11:List GStmt)(κ6_12:Int)(s40:Int)(k:Ex->St->Option Int):Option Int:=f12 N d5 x1 c38 c39 (k (.exit 2) (f3m x1 x0 c15 s16 c38 c39 κ6_0 κ6_1 κ6_2 κ6_3 κ6_4 κ6_5 κ6_6 κ6_7 κ6_8 κ6_9 κ6_10 κ6_11 κ6_12)) N s40
abbrev f7N(N:Nat)(d5:ρ14):FV f5p->HV f5d->(Ex->St->Option Int)->Option Int:=fun x y k=>let z:=y.1.2.2.2.2.2.2;let u:=y.1.2.2;f9p N d5 x.1 x.2.2.1 x.2.2.2.1 x.2.2.2.2.1 x.2.2.2.2.2.1 x.2.2.2.2.2.2.1 y.1.1 y.1.2.1 u.1 u.2.1 u.2.2.1 u.2.2.2.1 z.1 z.2.1 z.2.2.1 z.2.2.2.1 z.2.2.2.2.1 z.2.2.2.2.2.1 z.2.2.2.2.2.2.1 x.2.2.2.2.2.2.2.1 k
abbrev f5b:List (Nat×Sl):=[(1,.v τ2),(14,.v τ4),(15,.v τ2),(16,.v τ2)]
abbrev f5a:List (Nat×Sb):=[]
def f53(x1:Int)(x0:List GStmt)(c15:Int)(s16:Int):St:=⟨70,[(1,.v τ2 x1),(14,.v τ4 x0),(15,.v τ2 c15),(16,.v τ2 s16)],[]⟩
def f3l(_x1:Int)(_x0:List GStmt)(_c15:Int):St:=⟨70,[],[]⟩
def f9o(N:Nat)(d5:ρ14)(x1:Int)(x0:List GStmt)(c15:Int)(s16:Int)(k:Ex->St->Option Int):Option Int:=f4n N d5 x1 x0 c15 (k (.exit 0) (f3l x1 x0 c15)) N s16
abbrev f7M(N:Nat)(d5:ρ14):FV f5b->HV f5a->(Ex->St->Option Int)->Option Int:=fun x _ k=>f9o N d5 x.1 x.2.1 x.2.2.1 x.2.2.2.1 k
def f2l(N:Nat)(d5:ρ14):Nat->Code->St->(Ex->St->Option Int)->Option Int:=fun i c=>
 match i with
 |0=>(LPc 70 f5b f5a (f7M N d5) (fun st k=>iter (f03 0) (q7 (f1K N d5) N c 0) N st k))
 |2=>(LPc 70 f5p f5d (f7N N d5) (fun st k=>iter (f03 2) (q7 (f1K N d5) N c 2) N st k))
 |i=>fun st k=>iter (f03 i) (q7 (f1K N d5) N c i) N st k
theorem f7l(N:Nat)(d5:ρ14)(x1:Int)(x0:List GStmt)(c15:Int)(s16:Int)(c38:List (d9×GExpr))(c39:Int)(κ6_0:Int)(κ6_1:d9)(κ6_2:d9)(κ6_3:List d9)(κ6_4:List (d9×GExpr))(κ6_5:Int)(κ6_6:d9)(κ6_7:Int)(κ6_8:List d9)(κ6_9:List GExpr)(κ6_10:List GStmt)(κ6_11:List GStmt)(κ6_12:Int)(KX:Nat->St->Option Int)(I:St->Option Int)(s40:Int):
  s4 (f2l N d5) (f1K N d5) f55 2 (f54 x1 x0 c15 s16 c38 c39 κ6_0 κ6_1 κ6_2 κ6_3 κ6_4 κ6_5 κ6_6 κ6_7 κ6_8 κ6_9 κ6_10 κ6_11 κ6_12 s40) (I2 (f03 2) I KX (f5R N d5))=e7d N d5 x1 c38 c39 (KX 2 (f3m x1 x0 c15 s16 c38 c39 κ6_0 κ6_1 κ6_2 κ6_3 κ6_4 κ6_5 κ6_6 κ6_7 κ6_8 κ6_9 κ6_10 κ6_11 κ6_12)) (fun s40=>I (f54 x1 x0 c15 s16 c38 c39 κ6_0 κ6_1 κ6_2 κ6_3 κ6_4 κ6_5 κ6_6 κ6_7 κ6_8 κ6_9 κ6_10 κ6_11 κ6_12 s40)) s40:=by kernel_rfl
theorem f8B(N:Nat)(d5:ρ14):∀x y k,(∀st,k .ret st=(f5R N d5) st)->iter (f03 2) (q7 (f1K N d5) N f55 2) N ⟨70,unF f5p x,unH f5d y⟩ k=f7N N d5 x y k:=fun x y k hk=>
 s5 (S:=(Int)×Unit) (f03 2) _ (s4 (f2l N d5) (f1K N d5) f55 2) (f5R N d5) (x9 _ _ N _ f55 2 (show LoopsOk (f2l N d5) (f1K N d5) N (f5R N d5) []from trivial)) (fun s=>f54 x.1 x.2.2.1 x.2.2.2.1 x.2.2.2.2.1 x.2.2.2.2.2.1 x.2.2.2.2.2.2.1 y.1.1 y.1.2.1 y.1.2.2.1 y.1.2.2.2.1 y.1.2.2.2.2.1 y.1.2.2.2.2.2.1 y.1.2.2.2.2.2.2.1 y.1.2.2.2.2.2.2.2.1 y.1.2.2.2.2.2.2.2.2.1 y.1.2.2.2.2.2.2.2.2.2.1 y.1.2.2.2.2.2.2.2.2.2.2.1 y.1.2.2.2.2.2.2.2.2.2.2.2.1 y.1.2.2.2.2.2.2.2.2.2.2.2.2.1 s.1) k hk
  (fun self s=>e7d N d5 x.1 x.2.2.2.2.2.1 x.2.2.2.2.2.2.1 (k (.exit 2) (f3m x.1 x.2.2.1 x.2.2.2.1 x.2.2.2.2.1 x.2.2.2.2.2.1 x.2.2.2.2.2.2.1 y.1.1 y.1.2.1 y.1.2.2.1 y.1.2.2.2.1 y.1.2.2.2.2.1 y.1.2.2.2.2.2.1 y.1.2.2.2.2.2.2.1 y.1.2.2.2.2.2.2.2.1 y.1.2.2.2.2.2.2.2.2.1 y.1.2.2.2.2.2.2.2.2.2.1 y.1.2.2.2.2.2.2.2.2.2.2.1 y.1.2.2.2.2.2.2.2.2.2.2.2.1 y.1.2.2.2.2.2.2.2.2.2.2.2.2.1)) (fun s40=>self (s40,())) s.1) (fun n s=>f12 N d5 x.1 x.2.2.2.2.2.1 x.2.2.2.2.2.2.1 (k (.exit 2) (f3m x.1 x.2.2.1 x.2.2.2.1 x.2.2.2.2.1 x.2.2.2.2.2.1 x.2.2.2.2.2.2.1 y.1.1 y.1.2.1 y.1.2.2.1 y.1.2.2.2.1 y.1.2.2.2.2.1 y.1.2.2.2.2.2.1 y.1.2.2.2.2.2.2.1 y.1.2.2.2.2.2.2.2.1 y.1.2.2.2.2.2.2.2.2.1 y.1.2.2.2.2.2.2.2.2.2.1 y.1.2.2.2.2.2.2.2.2.2.2.1 y.1.2.2.2.2.2.2.2.2.2.2.2.1 y.1.2.2.2.2.2.2.2.2.2.2.2.2.1)) n s.1) (fun _=>rfl) (fun _ _=>rfl)
  (fun I s=>f7l N d5 x.1 x.2.2.1 x.2.2.2.1 x.2.2.2.2.1 x.2.2.2.2.2.1 x.2.2.2.2.2.2.1 y.1.1 y.1.2.1 y.1.2.2.1 y.1.2.2.2.1 y.1.2.2.2.2.1 y.1.2.2.2.2.2.1 y.1.2.2.2.2.2.2.1 y.1.2.2.2.2.2.2.2.1 y.1.2.2.2.2.2.2.2.2.1 y.1.2.2.2.2.2.2.2.2.2.1 y.1.2.2.2.2.2.2.2.2.2.2.1 y.1.2.2.2.2.2.2.2.2.2.2.2.1 y.1.2.2.2.2.2.2.2.2.2.2.2.2.1 (fun j=>k (.exit j)) I s.1) N (x.2.2.2.2.2.2.2.1,())
theorem f8C(N:Nat)(d5:ρ14):a1g (f2l N d5) (f1K N d5) N (f5R N d5) 2 f55:=fun st k hk=>J8 70 f5p f5d _ _ (f5R N d5) (f8B N d5) _ st k hk (rfl)
theorem f7k(N:Nat)(d5:ρ14)(x1:Int)(x0:List GStmt)(c15:Int)(KX:Nat->St->Option Int)(I:St->Option Int)(s16:Int):
  s4 (f2l N d5) (f1K N d5) f6G 0 (f53 x1 x0 c15 s16) (I2 (f03 0) I KX (f5R N d5))=a47 N d5 x1 x0 c15 (KX 0 (f3l x1 x0 c15)) (fun s16=>I (f53 x1 x0 c15 s16)) s16:=by kernel_rfl
theorem f8A(N:Nat)(d5:ρ14):∀x y k,(∀st,k .ret st=(f5R N d5) st)->iter (f03 0) (q7 (f1K N d5) N f6G 0) N ⟨70,unF f5b x,unH f5a y⟩ k=f7M N d5 x y k:=fun x _ k hk=>
 s5 (S:=(Int)×Unit) (f03 0) _ (s4 (f2l N d5) (f1K N d5) f6G 0) (f5R N d5) (x9 _ _ N _ f6G 0 (show LoopsOk (f2l N d5) (f1K N d5) N (f5R N d5) [(2,f55)]from⟨f8C N d5,trivial⟩)) (fun s=>f53 x.1 x.2.1 x.2.2.1 s.1) k hk
  (fun self s=>a47 N d5 x.1 x.2.1 x.2.2.1 (k (.exit 0) (f3l x.1 x.2.1 x.2.2.1)) (fun s16=>self (s16,())) s.1) (fun n s=>f4n N d5 x.1 x.2.1 x.2.2.1 (k (.exit 0) (f3l x.1 x.2.1 x.2.2.1)) n s.1) (fun _=>rfl) (fun _ _=>rfl)
  (fun I s=>f7k N d5 x.1 x.2.1 x.2.2.1 (fun j=>k (.exit j)) I s.1) N (x.2.2.2.1,())
theorem f93(N:Nat)(d5:ρ14):a1g (f2l N d5) (f1K N d5) N (f5R N d5) 0 f6G:=fun st k hk=>J8 70 f5b f5a _ _ (f5R N d5) (f8A N d5) _ st k hk (rfl)
theorem f9q(N:Nat)(d5:ρ14)(x:SV [.v τ4,.v τ2])(y:BV []):a0f (f1K N d5) Tryz.f50 (f0k N d5) f8D (f2l N d5) x y=L5 N d5 x.1 x.2.1:=by kernel_rfl
theorem c1M(N:Nat)(d5:ρ14)(Y5:Sound Tryz.prog GW B0G 50 (e0H fun x y=>d5 x.1 x.2.1)):Sound Tryz.prog GW B0G 50 (f0k N d5):=
 b48 (EnvOk.jk (P8 f03 (e7r N d5) _ _ (e7s N d5 Y5)) _) Tryz.func50 rfl Tryz.call50 (f0k N d5) f8D (fun _ _=>rfl) N (f2l N d5) (show LoopsOk (f2l N d5) (f1K N d5) N (f5R N d5) [(0,f6G),(2,f55)]from⟨f93 N d5,f8C N d5,trivial⟩) (f9q N d5)
def x8(N:Nat):Nat->(List GStmt)->Int->Option (Int)|0=>fun _ _=>none|d+1=>L5 N (x8 N d)
theorem d0V(N:Nat):∀d,Sound Tryz.prog GW B0G 50 (e0H fun x y=>x8 N d x.1 x.2.1)
 |0=>Sound.never Tryz.call50 (fun _ _=>rfl)
 |d+1=>c1M N (x8 N d) (d0V N d)
end
end
section
theorem b40(w:World):(callFunc 305 #[]).run Tryz.prog w = .ok (.value (.tuple #[])) w:=run_call_mark0 Tryz.func305 (by kernel_rfl) (by kernel_rfl) (by kernel_rfl) .disable (by kernel_rfl) w
theorem b70(w:World):(callFunc 307 #[]).run Tryz.prog w = .ok (.value (.tuple #[])) w:=run_call_mark0 Tryz.func307 (by kernel_rfl) (by kernel_rfl) (by kernel_rfl) .enable (by kernel_rfl) w
theorem c3C(a:Addr)(w:World):(callFunc 308 #[.pointer (some a)]).run Tryz.prog w = .ok (.value (.tuple #[])) w:=run_call_marked Tryz.func308 (by kernel_rfl) (by kernel_rfl) (by kernel_rfl) .acquire (by kernel_rfl) a w
theorem c3D(a:Addr)(w:World):(callFunc 310 #[.pointer (some a)]).run Tryz.prog w = .ok (.value (.tuple #[])) w:=run_call_marked Tryz.func310 (by kernel_rfl) (by kernel_rfl) (by kernel_rfl) .releaseMerge (by kernel_rfl) a w
theorem c9Z(a:Addr)(x:Value)(u:FrameMode)(w:World)(hc:w.cell? a=some x)(hz:w.frozen? a=false):
  CallsD Tryz.prog 238 #[.pointer (some a),.bool true] u w fun e u' w'=>u'=u/\(e = .returned (.tuple #[])/\w'=w.drew.setCell a (.int .u32 1)):=by
 have hc':w.drew.cell? a=some x:=by go_simp
 have hz':w.drew.frozen? a=false:=by go_simp
 have hst:=run_call_store (P:=Tryz.prog) Tryz.func270 (by kernel_rfl) (by kernel_rfl) (by kernel_rfl) (by kernel_rfl) (k:= .u32) (y:=1) hc' hz'
 go_enter_d Tryz.func238,Tryz.ntmps238
 go_wp2
 go_region_calls
 all_goals (go_end0;exact⟨rfl,rfl⟩)
theorem c3G(a:Addr)(w:World)(hc:w.cell? a=some (.int .i32 1))(hz:w.frozen? a=false):
  Calls Tryz.prog 269 #[.pointer (some a)] w fun e w'=>e = .returned (.tuple #[])/\w'=w.setCell a (.int .i32 0):=by
 have hd:=b40;have he:=b70;have hr:=c3D;have hadd:=run_call_add (P:=Tryz.prog) Tryz.func311 (by kernel_rfl) (by kernel_rfl) (by kernel_rfl) .i32 (by kernel_rfl) (y:=-1) (s:=0) hc hz (by simp[go_sem];rfl);have hcv:=run_convert_to_unsafe (P:=Tryz.prog) (src:=371) (dst:=258) Tryz.underlying371 Tryz.underlying258 (by kernel_rfl) hc
 go_enter Tryz.func269,Tryz.ntmps269
 go_wp2
 go_end0
 exact⟨rfl,rfl⟩
theorem c9W(a:Addr)(w:World)(hc:w.cell? a=some (.int .i32 0))(hz:w.frozen? a=false):
  Calls Tryz.prog 268 #[.pointer (some a)] w fun e w'=>e = .returned (.tuple #[])/\w'=w.setCell a (.int .i32 1):=by
 have hd:=b40;have he:=b70;have ha:=c3C;have hcas:=run_call_cas_hit (P:=Tryz.prog) Tryz.func306 (by kernel_rfl) (by kernel_rfl) (by kernel_rfl) .i32 (by kernel_rfl) (y:=1) hc hz;have hc':(w.setCell a (.int .i32 1)).cell? a=some (.int .i32 1):=World.cell?_setCell_same w a _ hc;have hcv:=run_convert_to_unsafe (P:=Tryz.prog) (src:=371) (dst:=258) Tryz.underlying371 Tryz.underlying258 (by kernel_rfl) hc'
 go_enter Tryz.func268,Tryz.ntmps268
 go_wp2
 first|go_end0|(simp only[Exit.inBlock,Exit.then];refine bodyPost_ret (results_none rfl _ _ _) rfl ?_)|refine bodyPost_ret (results_none rfl _ _ _) rfl ?_
 exact⟨rfl,rfl⟩
theorem d5i(b off:Nat)(w:World)(hc:w.cell? ⟨b,off,none⟩=some (.int .i32 0))(hz:w.frozen? ⟨b,off,none⟩=false):
  Calls Tryz.prog 236 #[.pointer (some ⟨b,off,none⟩)] w fun e w'=>e = .returned (.tuple #[])/\w'=w.setCell ⟨b,off,none⟩ (.int .i32 1):=by
 go_enter Tryz.func236,Tryz.ntmps236
 go_wp2_with (go_at_call 268;refine(c9W ⟨b,off,none⟩ _ hc hz).mono ?_;rintro e w' ⟨rfl,rfl⟩)
 go_end0
 exact⟨rfl,rfl⟩
theorem c7I(b off:Nat)(u:FrameMode)(w:World)(hc:w.cell? ⟨b,off,none⟩=some (.int .i32 1))(hz:w.frozen? ⟨b,off,none⟩=false):
  CallsD Tryz.prog 237 #[.pointer (some ⟨b,off,none⟩)] u w fun e u' w'=>u'=u/\(e = .returned (.tuple #[])/\w'=w.setCell ⟨b,off,none⟩ (.int .i32 0)):=by
 go_enter_d Tryz.func237,Tryz.ntmps237
 go_wp2_with (go_at_call 269;refine(c3G ⟨b,off,none⟩ _ hc hz).mono ?_;rintro e w' ⟨rfl,rfl⟩)
 go_end0
 exact⟨rfl,rfl⟩
set_option maxHeartbeats 1600000 in
theorem d5l(b off:Nat)(first:Array Value)(S:World->Prop)(w:World)
  (h0:w.cell? ⟨b,off,none⟩=some (.int .u32 0)) (h1:w.cell? ⟨b,off+1,none⟩=some (.int .i32 0)) (f0:w.frozen? ⟨b,off,none⟩=false) (f1:w.frozen? ⟨b,off+1,none⟩=false)
  (hg:Calls Tryz.prog 161 first (w.setCell ⟨b,off+1,none⟩ (.int .i32 1)) fun e w'=>e = .returned (.tuple #[])/\S w')
  (hS:∀w',S w'->w'.cell? ⟨b,off,none⟩=some (.int .u32 0)/\w'.cell? ⟨b,off+1,none⟩=some (.int .i32 1)/\w'.frozen? ⟨b,off,none⟩=false/\w'.frozen? ⟨b,off+1,none⟩=false):
  Calls Tryz.prog 204 #[.pointer (some ⟨b,off,none⟩),.func (.func 161) first #[]] w fun e w'=>e = .returned (.tuple #[])/\
   ∃w2,S w2/\w'=(w2.drew.setCell ⟨b,off,none⟩ (.int .u32 1)).setCell ⟨b,off+1,none⟩ (.int .i32 0):=by
 have hl:=run_call_load (P:=Tryz.prog) Tryz.func235 (by kernel_rfl) (by kernel_rfl) (by kernel_rfl) .u32 (by kernel_rfl) (w:=w.setCell ⟨b,off+1,none⟩ (.int .i32 1)) (a:=⟨b,off,none⟩) (x:=0) ((World.cell?_setCell_other _ ⟨b,off+1,none⟩ ⟨b,off,none⟩ _ (by simp)).trans h0);have hnot:∀(x:Bool) (w:World),(Op.unary .not (.bool x)).run Tryz.prog w = .ok (.bool (!x)) w:=fun _ _=>rfl
 go_enter_defers Tryz.func204,Tryz.ntmps204
 go_wp2_with (first
  |(go_at_call 236;refine(d5i b (off+1) _ (by go_simp) (by go_simp)).mono ?_;rintro e w' ⟨rfl,rfl⟩)
  |(go_at_call 203;go_in)
  |(go_at_call 161;refine hg.mono ?_;rintro e w2 ⟨rfl,hs2⟩))
 obtain⟨k1,k2,k3,k4⟩:=hS _ hs2;refine leaves_cons (f:=238) (args:=#[.pointer (some ⟨b,off,none⟩),.bool true]) (by simp) (by simp[go_sem]) ?_;refine(c9Z ⟨b,off,none⟩ (.int .u32 0) .returning _ k1 k3).mono ?_;rintro e u' w'' ⟨rfl,rfl,rfl⟩;refine leaves_cons (f:=237) (args:=#[.pointer (some ⟨b,off+1,none⟩)]) (by simp[settle]) (by simp[go_sem]) ?_;refine(c7I b (off+1) _ _ ?_ (by simp[k4])).mono ?_
 ·refine(World.cell?_setCell_other _ ⟨b,off,none⟩ ⟨b,off+1,none⟩ _ (by simp)).trans ?_;rw[World.cell?_drew];exact k2
 rintro e u' w'' ⟨rfl,rfl,rfl⟩;simp[Go.Leaves,settle,results,Tryz.results204];exact⟨_,hs2,rfl⟩
theorem e0j(b off:Nat)(first:Array Value)(S:World->Prop)(w:World)
  (h0:w.cell? ⟨b,off,none⟩=some (.int .u32 0)) (h1:w.cell? ⟨b,off+1,none⟩=some (.int .i32 0)) (f0:w.frozen? ⟨b,off,none⟩=false) (f1:w.frozen? ⟨b,off+1,none⟩=false)
  (hg:Calls Tryz.prog 161 first (w.setCell ⟨b,off+1,none⟩ (.int .i32 1)) fun e w'=>e = .returned (.tuple #[])/\S w')
  (hS:∀w',S w'->w'.cell? ⟨b,off,none⟩=some (.int .u32 0)/\w'.cell? ⟨b,off+1,none⟩=some (.int .i32 1)/\w'.frozen? ⟨b,off,none⟩=false/\w'.frozen? ⟨b,off+1,none⟩=false):
  Calls Tryz.prog 160 #[.pointer (some ⟨b,off,none⟩),.func (.func 161) first #[]] w fun e w'=>e = .returned (.tuple #[])/\
   ∃w2,S w2/\w'=(w2.drew.setCell ⟨b,off,none⟩ (.int .u32 1)).setCell ⟨b,off+1,none⟩ (.int .i32 0):=by
 have hl:=run_call_load (P:=Tryz.prog) Tryz.func235 (by kernel_rfl) (by kernel_rfl) (by kernel_rfl) .u32 (by kernel_rfl) h0;have hnot:∀(x:Bool) (w:World),(Op.unary .not (.bool x)).run Tryz.prog w = .ok (.bool (!x)) w:=fun _ _=>rfl
 go_enter Tryz.func160,Tryz.ntmps160
 go_wp2_with (first
  |(go_at_call 204;refine(d5l b off first S _ h0 h1 f0 f1 hg hS).mono ?_;rintro e w' ⟨rfl,w2,k1,rfl⟩)
  |(go_at_call 203;go_in))
 go_end0
 exact⟨rfl,_,k1,rfl⟩
end
section
def rpS(l:List UInt8):Value:= .string ⟨l.toArray⟩
def a7D:List Value:=[rpS [92],rpS [92,92],rpS [34],rpS [92,34],rpS [10],rpS [92,110]]
theorem b0g:ElemT Tryz.prog 65 9 1 16:=ElemT.mk_ Tryz.underlying65 (z:= .string ⟨#[]⟩) (by kernel_rfl) rfl (by decide) (by decide)
theorem a8t{w:World}{base:Nat}{e:TypeId}{size:Nat}{v:Value}{n:Nat}{xs:List Value}(h:w.ownsRow base e size v n xs)(hn:n≠0):∃A c,v = .slice A n c:=by
 rcases h.2 with⟨rfl,rfl⟩|⟨g',cap,cur,rfl,_⟩
 ·exact⟨none,0,rfl⟩
 ·exact⟨_,_,rfl⟩
theorem d8g(ad:Addr)(w:World)(hrow:Row w (some ad) a7D):
  Calls Tryz.prog 112 #[.slice (some ad) 6 6] w fun e w'=>∃(R:Nat) (v:Value),e = .returned (.pointer (some ⟨R,0,none⟩))/\Ext w w'/\w.heap.size<=R/\
   w'.heap[R]? = some (.cells #[.int .u32 0,.int .i32 0,.int .u32 0,.nilIface,v] 226 (0,0))/\w'.ownsRow w.heap.size 9 1 v 6 a7D:=by
 go_enter Tryz.func112,Tryz.ntmps112
 go_wp2_with (at_builtin;refine d0o (w0:=w) rfl b0g rfl (v:= .slice none 0 0) (n:=0) (xs:=[]) ⟨rfl,.inl ⟨rfl,rfl⟩⟩ (Ext.refl w) rfl (A:=some ad) (m:=6) (c:=6) (news:=a7D) hrow rfl rfl (by decide) (by omega) ?_;intro v' w2 hown hE hg hb hz;obtain⟨A,c,rfl⟩:=a8t hown (by decide))
 go_ret
 refine⟨w2.heap.size,.slice A 6 c,rfl,hE.alloc _,hE.size,?_,hown.alloc _⟩;show(w2.heap.push _)[w2.heap.size]? = _;exact Array.getElem?_push_size
end
end Go.Proofs.YtolpmfhiegpohaaGreatDoor
