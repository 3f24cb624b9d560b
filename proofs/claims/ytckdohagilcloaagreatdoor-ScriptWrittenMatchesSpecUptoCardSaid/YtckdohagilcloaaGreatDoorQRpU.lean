/- % -/
import Derived.Test.YtckdohagilcloaaGreatDoorQWeF8
import Derived.Test.YtckdohagilcloaaGreatDoorProg
import Derived.Test.YtckdohagilcloaaGreatDoorQBm4
import Derived.Defers
import Derived.Laws.Pointers
import Derived.Laws.LoneSync
import Derived.RegionTactic
import Derived.RegionCalls
import Derived.ChangeAlike
import Derived.Deep.WholeRow
import Derived.Laws.IdiomRangeMap
import Derived.Laws.IdiomStrings
import Derived.Laws.Rows
namespace Go.Proofs.YtckdohagilcloaaGreatDoor
set_option maxRecDepth 100000
set_option linter.unusedVariables false
set_option linter.unusedSimpArgs false
open Go Go.RowKit
noncomputable section
noncomputable section
def o8(N:Nat)(x0:GExpr)(x1:Int)(j5:Bool)(q:Int):Option Int:=br (decide (x1>=(30:Int))) (some (2:Int)) (k8 (br (decide (x0.kind<(1:Int))) (some true) (some (decide (x0.kind>(8:Int))))) fun j28=>br (j28) (some (4:Int)) (k8 (br (x0.kind==(3:Int)) (k8 (Q6 N x0.text) fun t44=>some (!t44)) (some false)) fun j37=>br (j37) (some (5:Int)) (k8 (br (!j5) (some (!(x0.text==([]:d3)))) (some false)) fun j47=>br (j47) (some (3:Int)) (k8 (br (x0.number !=(0:Int)) (some (x0.kind !=(2:Int))) (some false)) fun j47_1=>br (j47_1) (some (3:Int)) (k8 (br (decide ((x0.keys.length:Int)>(0:Int))) (some (x0.kind !=(6:Int))) (some false)) fun j47_2=>br (j47_2) (some (3:Int)) (k8 (k8 (J1 N x0.text) fun t75=>br (!t75) (some true) (k8 (v8 N x0.keys ()) fun t80=>some t80)) fun j72=>br (j72) (some (3:Int)) (k8 (br (decide (x0.number<(0:Int))) (some true) (some (decide (x0.number>(999999999:Int))))) fun j82=>br (j82) (some (3:Int)) (k8 (br (decide (q>=(0:Int))) (some ((x0.kids.length:Int) !=q)) (some false)) fun j82_3=>br (j82_3) (some (3:Int)) (k8 (br (x0.kind==(6:Int)) (br ((x0.keys.length:Int) !=(x0.kids.length:Int)) (some true) (some ((x0.keys.length:Int)==(0:Int)))) (some false)) fun j100=>br (j100) (some (3:Int)) (k8 (a0L N x0.keys) fun t122=>br (t122) (some (7:Int)) (some (0:Int))))))))))))
def n4(N:Nat)(x0:GExpr)(x1:Int):Option Int:=k8 (br (x0.kind==(1:Int)) (some true) (some (x0.kind==(3:Int)))) fun j5=>br (x0.kind==(1:Int)) (o8 N x0 x1 j5 (0:Int)) (br (x0.kind==(2:Int)) (o8 N x0 x1 j5 (0:Int)) (br (x0.kind==(3:Int)) (o8 N x0 x1 j5 (0:Int)) (br (x0.kind==(5:Int)) (o8 N x0 x1 j5 (2:Int)) (br (x0.kind==(7:Int)) (o8 N x0 x1 j5 (2:Int)) (br (x0.kind==(8:Int)) (o8 N x0 x1 j5 (2:Int)) (o8 N x0 x1 j5 (-1:Int)))))))
abbrev f2M:=E3 [.v O1,.v τ3] [] [.v τ3] [] (Int) fun z=>((z,()),())
abbrev e8U(N:Nat):AF:=f2M fun x _=>n4 N x.1 x.2.1
def d7R(N:Nat):FuncId->Option Tmp->Option AF:=fun f _=>P0 [(51,c2P N),(100,z0g N),(102,b7r N),(181,c7N N)] f
theorem d7S(N:Nat):H5 (d7R N):=fun _ _ _ h=>r9 h (u4 (a7I N) (u4 (e1n N) (u4 (a3o N) (u4 (b7G N) F1))))
def f2L:Nat->Hint:=fun i=>
 match i with
 |_=>o5
abbrev f6R(N:Nat):Env:=M5 f2L (d7R N) FF FF |>.jk (fun i=>match i with|1=>some 5|14=>some 28|16=>some 37|18=>some 47|19=>some 47|20=>some 47|22=>some 72|24=>some 82|25=>some 82|27=>some 100|_=>none)
theorem d7T(N:Nat):I6 182 (e8U N):=
 T5 (f6R N) (EnvOk.jk (t6 f2L (d7R N) _ _ (d7S N)) _) Tryz.func182 Tryz.call182 (e8U N) (fun x _=>x.1) N
def O7(_N:Nat)(x0:GExpr)(x1:Int):Option Bool:=k8 (n8 x0.kids x1) fun t9=>br (x0.kind==(7:Int)) (k8 (br (t9.kind==(8:Int)) (some true) (br (t9.kind==(7:Int)) (some (x1==(1:Int))) (some false))) fun j4=>some j4) (br (x0.kind==(8:Int)) (some (t9.kind==(8:Int))) (some false))
abbrev f43:=E3 [.v O1,.v τ3] [] [.v .bool] [] (Bool) fun z=>((z,()),())
abbrev e3l(N:Nat):AF:=f43 fun x _=>O7 N x.1 x.2.1
def e0f(_N:Nat):FuncId->Option Tmp->Option AF:=fun f _=>P0 [] f
theorem e0g(N:Nat):H5 (e0f N):=fun _ _ _ h=>r9 h F1
def f42:Nat->Hint:=fun i=>
 match i with
 |_=>o5
abbrev f7Q(N:Nat):Env:=M5 f42 (e0f N) FF FF |>.jk (fun i=>match i with|4=>some 4|_=>none)
theorem c4a(N:Nat):I6 112 (e3l N):=
 T5 (f7Q N) (EnvOk.jk (t6 f42 (e0f N) _ _ (e0g N)) _) Tryz.func112 Tryz.call112 (e3l N) (fun x _=>x.1) N
abbrev b4g:=E3 [.v O1,.v τ3] [] [.v τ3] [] (Int) fun z=>((z,()),())
def a5V(N:Nat)(l4:ρ23)(x1:Int)(c17:List GExpr)(c18:Int)(κ2_0:Int)(κ2_1:d3)(κ2_2:Int)(κ2_3:List d3)(κ2_4:List GExpr)(k0:τ39)(self:ρ34)(s19:Int):Option Int:=br (decide (s19<c18)) (k8 (n8 c17 s19) fun t22=>br (κ2_0 !=(7:Int)) (k8 (O7 N (GExpr.mk κ2_0 κ2_1 κ2_2 κ2_3 κ2_4) s19) fun t32=>br (t32) (k8 (l4 (Ze t22) (IntKind.i64.wrap ((IntKind.i64.wrap (x1+(1:Int)))+(1:Int)))) fun t37=>br (t37 !=(0:Int)) (some t37) (self (IntKind.i64.wrap (s19+(1:Int))))) (k8 (l4 (Ze t22) (IntKind.i64.wrap (x1+(1:Int)))) fun t37_1=>br (t37_1 !=(0:Int)) (some t37_1) (self (IntKind.i64.wrap (s19+(1:Int)))))) (k8 (O7 N (GExpr.mk κ2_0 κ2_1 κ2_2 κ2_3 κ2_4) s19) fun t32_2=>br (t32_2) (k8 (l4 (Ze t22) (IntKind.i64.wrap (x1+(1:Int)))) fun t37_3=>br (t37_3 !=(0:Int)) (some t37_3) (self (IntKind.i64.wrap (s19+(1:Int))))) (k8 (l4 (Ze t22) x1) fun t37_4=>br (t37_4 !=(0:Int)) (some t37_4) (self (IntKind.i64.wrap (s19+(1:Int))))))) (k0)
def a8w(N:Nat)(l4:ρ23)(x1:Int)(c17:List GExpr)(c18:Int)(κ2_0:Int)(κ2_1:d3)(κ2_2:Int)(κ2_3:List d3)(κ2_4:List GExpr)(k0:τ39):Nat->Int->Option Int|0,_=>none|n+1,s19=>a5V N l4 x1 c17 c18 κ2_0 κ2_1 κ2_2 κ2_3 κ2_4 k0 (a8w N l4 x1 c17 c18 κ2_0 κ2_1 κ2_2 κ2_3 κ2_4 k0 n) s19
def D7(N:Nat)(l4:ρ23)(x0:GExpr)(x1:Int):Option Int:=k8 (n4 N (Ze x0) x1) fun t12=>br (t12 !=(0:Int)) (some t12) (a8w N l4 x1 x0.kids (x0.kids.length:Int) x0.kind x0.text x0.number x0.keys x0.kids (some (0:Int)) N (0:Int))
abbrev f4s:=E3 [.v O1,.v τ3] [] [.v τ3] [] (Int) fun z=>((z,()),())
abbrev e9u(N:Nat)(l4:ρ23):AF:=f4s fun x _=>D7 N l4 x.1 x.2.1
abbrev e5l:SV [.v τ3]->BV []->Int:=fun x _=>x.1
def d9x(N:Nat)(l4:ρ23):FuncId->Option Tmp->Option AF:=fun f _=>P0 [(109,b4g fun x _=>l4 x.1 x.2.1),(112,e3l N),(182,e8U N)] f
theorem d9y(N:Nat)(l4:ρ23)(a1e:Sound Tryz.prog GW x6 109 (b4g fun x y=>l4 x.1 x.2.1)):∀f q F,d9x N l4 f q=some F->Sound Tryz.prog GW x6 f F:=fun _ _ _ h=>r9 h (u4 (a1e) (u4 (c4a N) (u4 (d7T N) F1)))
def f4r:Nat->Hint:=fun i=>
 match i with
 |0=>⟨[],[1,2,17,18,19],[1002],[],[],[]⟩
 |_=>o5
abbrev e24(N:Nat)(l4:ρ23):Env:=M5 f4r (d9x N l4) (fun _=>false) (fun _=>false) |>.jk (fun _=>none)
abbrev f7E(N:Nat)(l4:ρ23):=B4 (e24 N l4) Tryz.f109 (e9u N l4) e5l
noncomputable abbrev f4q:Code:=P9 (m8 Tryz.f109) [true,true,false,true,false,false]
abbrev d9w:List (Nat×Sl):=[(1,.v τ3),(2,.box 1002 0),(17,.v (.sl O1)),(18,.v τ3),(19,.v τ3)]
abbrev d9v:List (Nat×Sb):=[(1002,.cells [.v τ3,.v .str,.v τ3,.v τ21,.v (.sl O1)])]
def c8C(N:Nat)(l4:ρ23):T9 (Int) d9w d9v:=fun K n x y=>a8w N l4 x.1 x.2.2.1 x.2.2.2.1 y.1.1 y.1.2.1 y.1.2.2.1 y.1.2.2.2.1 y.1.2.2.2.2.1 (K 0 ⟨42,[],[]⟩) n x.2.2.2.2.1
def e5k(N:Nat)(l4:ρ23):Nat->Code->St->(Ex->St->Option Int)->Option Int:=fun i c=>
 match i with
 |0=>U4 (e24 N l4) N 42 (c8C N l4) 0 c
 |i=>LpD (e24 N l4) N i c
theorem e9v(N:Nat)(l4:ρ23):B2 (e5k N l4) (e24 N l4) N (f7E N l4) 0 f4q:=
 o0 (c8C N l4) (fun K f x y=>a5V N l4 x.1 x.2.2.1 x.2.2.2.1 y.1.1 y.1.2.1 y.1.2.2.1 y.1.2.2.2.1 y.1.2.2.2.2.1 (K 0 ⟨42,[],[]⟩) (fun s19=>f (x.1,x.2.1,x.2.2.1,x.2.2.2.1,s19,x.2.2.2.2.2) y) x.2.2.2.2.1)
theorem d9z(N:Nat)(l4:ρ23)(a1e:Sound Tryz.prog GW x6 109 (b4g fun x y=>l4 x.1 x.2.1)):Sound Tryz.prog GW x6 109 (e9u N l4):=
 a0l (EnvOk.jk (t6 f4r (d9x N l4) _ _ (d9y N l4 a1e)) _) Tryz.func109 Tryz.call109 (e9u N l4) e5l N (e5k N l4) (P5 (e9v N l4) U6)
def A7(N:Nat):Nat->GExpr->Int->Option (Int)|0=>fun _ _=>none|d+1=>D7 N (A7 N d)
theorem b62(N:Nat):∀d,Sound Tryz.prog GW x6 109 (b4g fun x y=>A7 N d x.1 x.2.1)
 |0=>Sound.never Tryz.call109 (fun _ _=>rfl)
 |d+1=>d9z N (A7 N d) (b62 N d)
abbrev c8a:=E3 [.v τ15,.v τ3] [] [.v τ3] [] (Int) fun z=>((z,()),())
def a2S(N:Nat)(i6:ρ16)(x1:Int)(c38:List (d3×GExpr))(c39:Int)(k2:τ39)(self:ρ34)(s40:Int):Option Int:=br (decide (s40<c39)) (k8 (n8 c38 s40) fun t42=>k8 (A7 N N (Ze t42.2) (IntKind.i64.wrap (x1+(1:Int)))) fun t48=>br (t48 !=(0:Int)) (some t48) (self (IntKind.i64.wrap (s40+(1:Int))))) (k2)
def a6m(N:Nat)(i6:ρ16)(x1:Int)(c38:List (d3×GExpr))(c39:Int)(k2:τ39):Nat->Int->Option Int|0,_=>none|n+1,s40=>a2S N i6 x1 c38 c39 k2 (a6m N i6 x1 c38 c39 k2 n) s40
def Y6(N:Nat)(i6:ρ16)(x1:Int)(x0:List GStmt)(c15:Int)(k0:τ39)(self:ρ34)(s16:Int):Option Int:=br (decide (s16<c15)) (k8 (n8 x0 s16) fun t18=>k8 (C3 N (GStmt.mk t18.kind t18.name t18.text t18.params t18.args (Ze t18.expr) t18.body t18.els t18.at_) x1) fun t22=>br (t22 !=(0:Int)) (some t22) (k8 (D8 N (GStmt.mk t18.kind t18.name t18.text t18.params t18.args (Ze t18.expr) t18.body t18.els t18.at_)) fun t27=>br (t27.2.2.2.2.1) (k8 (A7 N N (Ze t18.expr) (IntKind.i64.wrap (x1+(1:Int)))) fun t33=>br (t33 !=(0:Int)) (some t33) (a6m N i6 x1 t18.args (t18.args.length:Int) (k8 (i6 t18.body (IntKind.i64.wrap (x1+(1:Int)))) fun t57=>br (t57 !=(0:Int)) (some t57) (k8 (i6 t18.els (IntKind.i64.wrap (x1+(1:Int)))) fun t65=>br (t65 !=(0:Int)) (some t65) (self (IntKind.i64.wrap (s16+(1:Int)))))) N (0:Int))) (a6m N i6 x1 t18.args (t18.args.length:Int) (k8 (i6 t18.body (IntKind.i64.wrap (x1+(1:Int)))) fun t57_1=>br (t57_1 !=(0:Int)) (some t57_1) (k8 (i6 t18.els (IntKind.i64.wrap (x1+(1:Int)))) fun t65_2=>br (t65_2 !=(0:Int)) (some t65_2) (self (IntKind.i64.wrap (s16+(1:Int)))))) N (0:Int)))) (k0)
def b1T(N:Nat)(i6:ρ16)(x1:Int)(x0:List GStmt)(c15:Int)(k0:τ39):Nat->Int->Option Int|0,_=>none|n+1,s16=>Y6 N i6 x1 x0 c15 k0 (b1T N i6 x1 x0 c15 k0 n) s16
def x7(N:Nat)(i6:ρ16)(x0:List GStmt)(x1:Int):Option Int:=b1T N i6 x1 x0 (x0.length:Int) (some (0:Int)) N (0:Int)
abbrev f2w:=E3 [.v τ15,.v τ3] [] [.v τ3] [] (Int) fun z=>((z,()),())
abbrev e8J(N:Nat)(i6:ρ16):AF:=f2w fun x _=>x7 N i6 x.1 x.2.1
abbrev e4E:SV [.v τ3]->BV []->Int:=fun x _=>x.1
def d7x(N:Nat)(i6:ρ16):FuncId->Option Tmp->Option AF:=fun f _=>P0 [(56,c8a fun x _=>i6 x.1 x.2.1),(106,c3r N),(108,e9I N),(109,b4g fun x _=>A7 N N x.1 x.2.1)] f
theorem d7y(N:Nat)(i6:ρ16)(U0:Sound Tryz.prog GW x6 56 (c8a fun x y=>i6 x.1 x.2.1)):∀f q F,d7x N i6 f q=some F->Sound Tryz.prog GW x6 f F:=fun _ _ _ h=>r9 h (u4 (U0) (u4 (b1i N) (u4 (e0e N) (u4 (b62 N N) F1))))
def f2v:Nat->Hint:=fun i=>
 match i with
 |0=>⟨[],[1,14,15,16],[],[],[],[]⟩
 |2=>⟨[],[1,6,14,15,16,38,39,40],[1006],[1,6,14,15,16],[1006],[]⟩
 |_=>o5
abbrev d2z(N:Nat)(i6:ρ16):Env:=M5 f2v (d7x N i6) (fun _=>false) (fun _=>false) |>.jk (fun _=>none)
abbrev f2s(N:Nat)(i6:ρ16):=B4 (d2z N i6) Tryz.f56 (e8J N i6) e4E
noncomputable abbrev f2u:Code:=P9 (m8 Tryz.f56) [true,false,true,false,false]
noncomputable abbrev f2t:Code:=P9 (m8 Tryz.f56) [true,false,true,false,false,true,true,false,false,true,true,true,false,true,false,false]
abbrev c3u:List (Nat×Sl):=[(1,.v τ3),(6,.box 1006 0),(14,.v τ15),(15,.v τ3),(16,.v τ3),(38,.v τ29),(39,.v τ3),(40,.v τ3)]
abbrev b5h:List (Nat×Sb):=[(1006,.cells [.v τ3,.v .str,.v .str,.v τ21,.v τ29,.v τ3,.v .str,.v τ3,.v τ21,.v (.sl O1),.v τ15,.v τ15,.v τ3])]
def b73(x:FV c3u)(y:HV b5h):St:=⟨70,[(1,.v τ3 x.1),(6,.box 1006 0),(14,.v τ15 x.2.2.1),(15,.v τ3 x.2.2.2.1),(16,.v τ3 x.2.2.2.2.1)],unH b5h y⟩
def c79(N:Nat)(i6:ρ16):T9 (Int) c3u b5h:=fun K n x y=>a6m N i6 x.1 x.2.2.2.2.2.1 x.2.2.2.2.2.2.1 (K 2 (b73 x y)) n x.2.2.2.2.2.2.2.1
abbrev d7v:List (Nat×Sl):=[(1,.v τ3),(14,.v τ15),(15,.v τ3),(16,.v τ3)]
abbrev d7u:List (Nat×Sb):=[]
def c78(N:Nat)(i6:ρ16):T9 (Int) d7v d7u:=fun K n x y=>b1T N i6 x.1 x.2.1 x.2.2.1 (K 0 ⟨70,[],[]⟩) n x.2.2.2.1
def d7w(N:Nat)(i6:ρ16):Nat->Code->St->(Ex->St->Option Int)->Option Int:=fun i c=>
 match i with
 |0=>U4 (d2z N i6) N 70 (c78 N i6) 0 c
 |2=>U4 (d2z N i6) N 70 (c79 N i6) 2 c
 |i=>LpD (d2z N i6) N i c
theorem d7z(N:Nat)(i6:ρ16):B2 (d7w N i6) (d2z N i6) N (f2s N i6) 2 f2t:=
 o0 (c79 N i6) (fun K f x y=>a2S N i6 x.1 x.2.2.2.2.2.1 x.2.2.2.2.2.2.1 (K 2 (b73 x y)) (fun s40=>f (x.1,x.2.1,x.2.2.1,x.2.2.2.1,x.2.2.2.2.1,x.2.2.2.2.2.1,x.2.2.2.2.2.2.1,s40,x.2.2.2.2.2.2.2.2) y) x.2.2.2.2.2.2.2.1)
theorem e8K(N:Nat)(i6:ρ16):B2 (d7w N i6) (d2z N i6) N (f2s N i6) 0 f2u:=
 a4Q (c78 N i6) (fun K f x y=>Y6 N i6 x.1 x.2.1 x.2.2.1 (K 0 ⟨70,[],[]⟩) (fun s16=>f (x.1,x.2.1,x.2.2.1,s16,x.2.2.2.2) y) x.2.2.2.1) (P5 (d7z N i6) U6)
theorem d7A(N:Nat)(i6:ρ16)(U0:Sound Tryz.prog GW x6 56 (c8a fun x y=>i6 x.1 x.2.1)):Sound Tryz.prog GW x6 56 (e8J N i6):=
 a0l (EnvOk.jk (t6 f2v (d7x N i6) _ _ (d7y N i6 U0)) _) Tryz.func56 Tryz.call56 (e8J N i6) e4E N (d7w N i6) (P5 (e8K N i6) (P5 (d7z N i6) U6))
def s6(N:Nat):Nat->(List GStmt)->Int->Option (Int)|0=>fun _ _=>none|d+1=>x7 N (s6 N d)
theorem c3v(N:Nat):∀d,Sound Tryz.prog GW x6 56 (c8a fun x y=>s6 N d x.1 x.2.1)
 |0=>Sound.never Tryz.call56 (fun _ _=>rfl)
 |d+1=>d7A N (s6 N d) (c3v N d)
end
end
section
theorem b3L(w:World):(callFunc 302 #[]).run Tryz.prog w = .ok (.value (.tuple #[])) w:=run_call_mark0 Tryz.func302 (by kernel_rfl) (by kernel_rfl) (by kernel_rfl) .disable (by kernel_rfl) w
theorem b6O(w:World):(callFunc 304 #[]).run Tryz.prog w = .ok (.value (.tuple #[])) w:=run_call_mark0 Tryz.func304 (by kernel_rfl) (by kernel_rfl) (by kernel_rfl) .enable (by kernel_rfl) w
theorem c40(a:Addr)(w:World):(callFunc 305 #[.pointer (some a)]).run Tryz.prog w = .ok (.value (.tuple #[])) w:=run_call_marked Tryz.func305 (by kernel_rfl) (by kernel_rfl) (by kernel_rfl) .acquire (by kernel_rfl) a w
theorem c43(a:Addr)(w:World):(callFunc 307 #[.pointer (some a)]).run Tryz.prog w = .ok (.value (.tuple #[])) w:=run_call_marked Tryz.func307 (by kernel_rfl) (by kernel_rfl) (by kernel_rfl) .releaseMerge (by kernel_rfl) a w
theorem d4x(a:Addr)(x:Value)(u:FrameMode)(w:World)(hc:w.cell? a=some x)(hz:w.frozen? a=false):
  CallsD Tryz.prog 258 #[.pointer (some a),.bool true] u w fun e u' w'=>u'=u/\(e = .returned (.tuple #[])/\w'=w.drew.setCell a (.int .u32 1)):=by
 have hc':w.drew.cell? a=some x:=by go_simp
 have hz':w.drew.frozen? a=false:=by go_simp
 have hst:=run_call_store (P:=Tryz.prog) Tryz.func284 (by kernel_rfl) (by kernel_rfl) (by kernel_rfl) (by kernel_rfl) (k:= .u32) (y:=1) hc' hz'
 go_enter_d Tryz.func258,Tryz.ntmps258
 go_wp2
 go_region_calls
 all_goals (go_end0;exact⟨rfl,rfl⟩)
theorem c47(a:Addr)(w:World)(hc:w.cell? a=some (.int .i32 1))(hz:w.frozen? a=false):
  Calls Tryz.prog 283 #[.pointer (some a)] w fun e w'=>e = .returned (.tuple #[])/\w'=w.setCell a (.int .i32 0):=by
 have hd:=b3L;have he:=b6O;have hr:=c43;have hadd:=run_call_add (P:=Tryz.prog) Tryz.func308 (by kernel_rfl) (by kernel_rfl) (by kernel_rfl) .i32 (by kernel_rfl) (y:=-1) (s:=0) hc hz (by simp[go_sem];rfl);have hcv:=run_convert_to_unsafe (P:=Tryz.prog) (src:=370) (dst:=297) Tryz.underlying370 Tryz.underlying297 (by kernel_rfl) hc
 go_enter Tryz.func283,Tryz.ntmps283
 go_wp2
 go_end0
 exact⟨rfl,rfl⟩
theorem d4u(a:Addr)(w:World)(hc:w.cell? a=some (.int .i32 0))(hz:w.frozen? a=false):
  Calls Tryz.prog 282 #[.pointer (some a)] w fun e w'=>e = .returned (.tuple #[])/\w'=w.setCell a (.int .i32 1):=by
 have hd:=b3L;have he:=b6O;have ha:=c40;have hcas:=run_call_cas_hit (P:=Tryz.prog) Tryz.func303 (by kernel_rfl) (by kernel_rfl) (by kernel_rfl) .i32 (by kernel_rfl) (y:=1) hc hz;have hc':(w.setCell a (.int .i32 1)).cell? a=some (.int .i32 1):=World.cell?_setCell_same w a _ hc;have hcv:=run_convert_to_unsafe (P:=Tryz.prog) (src:=370) (dst:=297) Tryz.underlying370 Tryz.underlying297 (by kernel_rfl) hc'
 go_enter Tryz.func282,Tryz.ntmps282
 go_wp2
 first|go_end0|(simp only[Exit.inBlock,Exit.then];refine bodyPost_ret (results_none rfl _ _ _) rfl ?_)|refine bodyPost_ret (results_none rfl _ _ _) rfl ?_
 exact⟨rfl,rfl⟩
theorem e07(b off:Nat)(w:World)(hc:w.cell? ⟨b,off,none⟩=some (.int .i32 0))(hz:w.frozen? ⟨b,off,none⟩=false):
  Calls Tryz.prog 256 #[.pointer (some ⟨b,off,none⟩)] w fun e w'=>e = .returned (.tuple #[])/\w'=w.setCell ⟨b,off,none⟩ (.int .i32 1):=by
 go_enter Tryz.func256,Tryz.ntmps256
 go_wp2_with (go_at_call 282;refine(d4u ⟨b,off,none⟩ _ hc hz).mono ?_;rintro e w' ⟨rfl,rfl⟩)
 go_end0
 exact⟨rfl,rfl⟩
theorem c9A(b off:Nat)(u:FrameMode)(w:World)(hc:w.cell? ⟨b,off,none⟩=some (.int .i32 1))(hz:w.frozen? ⟨b,off,none⟩=false):
  CallsD Tryz.prog 257 #[.pointer (some ⟨b,off,none⟩)] u w fun e u' w'=>u'=u/\(e = .returned (.tuple #[])/\w'=w.setCell ⟨b,off,none⟩ (.int .i32 0)):=by
 go_enter_d Tryz.func257,Tryz.ntmps257
 go_wp2_with (go_at_call 283;refine(c47 ⟨b,off,none⟩ _ hc hz).mono ?_;rintro e w' ⟨rfl,rfl⟩)
 go_end0
 exact⟨rfl,rfl⟩
set_option maxHeartbeats 1600000 in
theorem e1a(b off:Nat)(first:Array Value)(S:World->Prop)(w:World)
  (h0:w.cell? ⟨b,off,none⟩=some (.int .u32 0)) (h1:w.cell? ⟨b,off+1,none⟩=some (.int .i32 0)) (f0:w.frozen? ⟨b,off,none⟩=false) (f1:w.frozen? ⟨b,off+1,none⟩=false)
  (hg:Calls Tryz.prog 187 first (w.setCell ⟨b,off+1,none⟩ (.int .i32 1)) fun e w'=>e = .returned (.tuple #[])/\S w')
  (hS:∀w',S w'->w'.cell? ⟨b,off,none⟩=some (.int .u32 0)/\w'.cell? ⟨b,off+1,none⟩=some (.int .i32 1)/\w'.frozen? ⟨b,off,none⟩=false/\w'.frozen? ⟨b,off+1,none⟩=false):
  Calls Tryz.prog 230 #[.pointer (some ⟨b,off,none⟩),.func (.func 187) first #[]] w fun e w'=>e = .returned (.tuple #[])/\
   ∃w2,S w2/\w'=(w2.drew.setCell ⟨b,off,none⟩ (.int .u32 1)).setCell ⟨b,off+1,none⟩ (.int .i32 0):=by
 have hl:=run_call_load (P:=Tryz.prog) Tryz.func255 (by kernel_rfl) (by kernel_rfl) (by kernel_rfl) .u32 (by kernel_rfl) (w:=w.setCell ⟨b,off+1,none⟩ (.int .i32 1)) (a:=⟨b,off,none⟩) (x:=0) ((World.cell?_setCell_other _ ⟨b,off+1,none⟩ ⟨b,off,none⟩ _ (by simp)).trans h0);have hnot:∀(x:Bool) (w:World),(Op.unary .not (.bool x)).run Tryz.prog w = .ok (.bool (!x)) w:=fun _ _=>rfl
 go_enter_defers Tryz.func230,Tryz.ntmps230
 go_wp2_with (first
  |(go_at_call 256;refine(e07 b (off+1) _ (by go_simp) (by go_simp)).mono ?_;rintro e w' ⟨rfl,rfl⟩)
  |(go_at_call 229;go_in)
  |(go_at_call 187;refine hg.mono ?_;rintro e w2 ⟨rfl,hs2⟩))
 obtain⟨k1,k2,k3,k4⟩:=hS _ hs2;refine leaves_cons (f:=258) (args:=#[.pointer (some ⟨b,off,none⟩),.bool true]) (by simp) (by simp[go_sem]) ?_;refine(d4x ⟨b,off,none⟩ (.int .u32 0) .returning _ k1 k3).mono ?_;rintro e u' w'' ⟨rfl,rfl,rfl⟩;refine leaves_cons (f:=257) (args:=#[.pointer (some ⟨b,off+1,none⟩)]) (by simp[settle]) (by simp[go_sem]) ?_;refine(c9A b (off+1) _ _ ?_ (by simp[k4])).mono ?_
 ·refine(World.cell?_setCell_other _ ⟨b,off,none⟩ ⟨b,off+1,none⟩ _ (by simp)).trans ?_;rw[World.cell?_drew];exact k2
 rintro e u' w'' ⟨rfl,rfl,rfl⟩;simp[Go.Leaves,settle,results,Tryz.results230];exact⟨_,hs2,rfl⟩
theorem f0G(b off:Nat)(first:Array Value)(S:World->Prop)(w:World)
  (h0:w.cell? ⟨b,off,none⟩=some (.int .u32 0)) (h1:w.cell? ⟨b,off+1,none⟩=some (.int .i32 0)) (f0:w.frozen? ⟨b,off,none⟩=false) (f1:w.frozen? ⟨b,off+1,none⟩=false)
  (hg:Calls Tryz.prog 187 first (w.setCell ⟨b,off+1,none⟩ (.int .i32 1)) fun e w'=>e = .returned (.tuple #[])/\S w')
  (hS:∀w',S w'->w'.cell? ⟨b,off,none⟩=some (.int .u32 0)/\w'.cell? ⟨b,off+1,none⟩=some (.int .i32 1)/\w'.frozen? ⟨b,off,none⟩=false/\w'.frozen? ⟨b,off+1,none⟩=false):
  Calls Tryz.prog 186 #[.pointer (some ⟨b,off,none⟩),.func (.func 187) first #[]] w fun e w'=>e = .returned (.tuple #[])/\
   ∃w2,S w2/\w'=(w2.drew.setCell ⟨b,off,none⟩ (.int .u32 1)).setCell ⟨b,off+1,none⟩ (.int .i32 0):=by
 have hl:=run_call_load (P:=Tryz.prog) Tryz.func255 (by kernel_rfl) (by kernel_rfl) (by kernel_rfl) .u32 (by kernel_rfl) h0;have hnot:∀(x:Bool) (w:World),(Op.unary .not (.bool x)).run Tryz.prog w = .ok (.bool (!x)) w:=fun _ _=>rfl
 go_enter Tryz.func186,Tryz.ntmps186
 go_wp2_with (first
  |(go_at_call 230;refine(e1a b off first S _ h0 h1 f0 f1 hg hS).mono ?_;rintro e w' ⟨rfl,w2,k1,rfl⟩)
  |(go_at_call 229;go_in))
 go_end0
 exact⟨rfl,_,k1,rfl⟩
end
section
def rpS(l:List UInt8):Value:= .string ⟨l.toArray⟩
def a6Q:List Value:=[rpS [92],rpS [92,92],rpS [34],rpS [92,34],rpS [10],rpS [92,110]]
theorem a9o:ElemT Tryz.prog 42 9 1 16:=ElemT.mk_ Tryz.underlying42 (z:= .string ⟨#[]⟩) (by kernel_rfl) rfl (by decide) (by decide)
theorem a7s{w:World}{base:Nat}{e:TypeId}{size:Nat}{v:Value}{n:Nat}{xs:List Value}(h:w.ownsRow base e size v n xs)(hn:n≠0):∃A c,v = .slice A n c:=by
 rcases h.2 with⟨rfl,rfl⟩|⟨g',cap,cur,rfl,_⟩
 ·exact⟨none,0,rfl⟩
 ·exact⟨_,_,rfl⟩
theorem e6c(ad:Addr)(w:World)(hrow:Row w (some ad) a6Q):
  Calls Tryz.prog 116 #[.slice (some ad) 6 6] w fun e w'=>∃(R:Nat) (v:Value),e = .returned (.pointer (some ⟨R,0,none⟩))/\Ext w w'/\w.heap.size<=R/\
   w'.heap[R]? = some (.cells #[.int .u32 0,.int .i32 0,.int .u32 0,.nilIface,v] 261 (0,0))/\w'.ownsRow w.heap.size 9 1 v 6 a6Q:=by
 go_enter Tryz.func116,Tryz.ntmps116
 go_wp2_with (at_builtin;refine d4T (w0:=w) rfl a9o rfl (v:= .slice none 0 0) (n:=0) (xs:=[]) ⟨rfl,.inl ⟨rfl,rfl⟩⟩ (Ext.refl w) rfl (A:=some ad) (m:=6) (c:=6) (news:=a6Q) hrow rfl rfl (by decide) (by omega) ?_;intro v' w2 hown hE hg hb hz;obtain⟨A,c,rfl⟩:=a7s hown (by decide))
 go_ret
 refine⟨w2.heap.size,.slice A 6 c,rfl,hE.alloc _,hE.size,?_,hown.alloc _⟩;show(w2.heap.push _)[w2.heap.size]? = _;exact Array.getElem?_push_size
end
noncomputable section
noncomputable def rpC(v:Value):Array Value:=⟨Tryz.zeroCells333.toList.set 256 v⟩
theorem b3J(v:Value):(rpC v).size=257:=by
 show(Tryz.zeroCells333.toList.set 256 v).length=_;rw[List.length_set]
 kernel_rfl
theorem f0H(w:World)(v:Value)(h1:v.oneCell'=true):(storeCells ⟨w.heap.size,0,none⟩ (Tryz.zeroCells333.toList.set 256 v)).run Tryz.prog (w.alloc (.cells Tryz.zeroCells333 333)) = .ok () (w.alloc (.cells (rpC v) 333)):=by
 refine run_storeCells_new w 333 Tryz.zeroCells333 (rpC v) ?_ ?_ ?_
 ·rw[b3J];kernel_rfl
 ·rw[b3J];kernel_rfl
 ·rw[Array.all_eq_true'];intro x hx;have hx:x∈Tryz.zeroCells333.toList.set 256 v:=by simpa [rpC]using hx
  rcases List.mem_or_eq_of_mem_set hx with h|h
  ·have:Tryz.zeroCells333.toList.all (·.oneCell')=true:=by kernel_rfl
   exact List.all_eq_true.1 this x h
  ·rw[h];exact h1
theorem e6g(w:World)(o:Obj)(v:Value)(h1:v.oneCell'=true):(storeCells ⟨w.heap.size+1,0,none⟩ (Tryz.zeroCells333.toList.set 256 v)).run Tryz.prog ((w.alloc o).alloc (.cells Tryz.zeroCells333 333)) = .ok () ((w.alloc o).alloc (.cells (rpC v) 333)):=by
 have:=f0H (w.alloc o) v h1;have e:(w.alloc o).heap.size=w.heap.size+1:=by simp
 rw[e]at this;exact this
theorem d4t(a:UInt8)(h:0<(ByteArray.mk #[a]).size):(ByteArray.mk #[a])[0]'h=a:=rfl
theorem b9i:(10:UInt8).toNat=10:=rfl
theorem b9j:(34:UInt8).toNat=34:=rfl
theorem b9k:(92:UInt8).toNat=92:=rfl
attribute [local go_sem] d4t b9i b9j b9k
def KeepT(T:TypeId)(w w':World):Prop:=∀(g:Nat) (cs:Array Value) (fz:Nat×Nat),w.heap[g]? = some (.cells cs T fz)->w'.heap[g]? = some (.cells cs T fz)
theorem a2b{w:World}{g:Nat}{o:Obj}(h:w.heap[g]? = some o):g<w.heap.size:=by
 rcases Nat.lt_or_ge g w.heap.size with h'|h'
 ·exact h'
 ·rw[Array.getElem?_eq_none h']at h;cases h
theorem KeepT.refl{T:TypeId}(w:World):KeepT T w w:=fun _ _ _ h=>h
theorem KeepT.trans{T:TypeId}{a b c:World}(h:KeepT T a b)(k:KeepT T b c):KeepT T a c:=fun g cs fz e=>k g cs fz (h g cs fz e)
theorem KeepT.alloc{T:TypeId}(w:World)(o:Obj):KeepT T w (w.alloc o):=fun g cs fz h=>(Below.heap_alloc w o g (a2b h)).trans h
theorem KeepT.drew{T:TypeId}(w:World):KeepT T w w.drew:=fun _ _ _ h=>h
theorem KeepT.set{T U:TypeId}{w:World}{B:Nat}{cur:Array Value}{fz:Nat×Nat}(hB:w.heap[B]? = some (.cells cur U fz))(hT:U≠T)(j:Nat)(x:Value):KeepT T w (w.setCell ⟨B,j,none⟩ x):=fun g cs fz' h=>by
 have hne:g≠B:=by
  rintro rfl;rw[hB]at h;exact hT (Obj.cells.inj (Option.some.inj h)).2.1
 exact(Below.heap_setCell w ⟨B,j,none⟩ x g hne).trans h
theorem KeepT.grown{T e:TypeId}{w w':World}{base size n:Nat}{v:Value}{xs:List Value}(hown:w.ownsRow base e size v n xs)(hg:w.grownBy w' v.ownBlock)(hT:e≠T):KeepT T w w':=fun g cs fz h=>by
 refine(hg.block g (a2b h) ?_).trans h;intro hk;rcases hown.2 with⟨rfl,_⟩|⟨q,cap,cur,rfl,_,hh,_⟩
 ·cases hk
 ·have:g=q:=by simpa [Value.ownBlock]using hk
  subst this;rw[hh]at h;exact hT (Obj.cells.inj (Option.some.inj h)).2.1
theorem KeepT.own{T:TypeId}{w w':World}(h:KeepT T w w'){base size n:Nat}{v:Value}{xs:List Value}(ho:w.ownsRow base T size v n xs):w'.ownsRow base T size v n xs:=by
 obtain⟨h1,h2⟩:=ho;refine⟨h1,?_⟩;rcases h2 with h2|⟨g,cap,cur,hv,hg,hh,r⟩
 ·exact .inl h2
 ·exact .inr ⟨g,cap,cur,hv,hg,h _ _ _ hh,r⟩
def RpBy(w wr:World)(u:Value)(l:List UInt8):Prop:=∃(g cap:Nat) (cs:Array Value) (fz:Nat×Nat),u = .slice (some ⟨g,0,none⟩) l.length cap/\w.heap.size<=g/\wr.heap[g]? = some (.cells cs 5 fz)/\∀(j:Nat) (b:UInt8),l[j]? = some b->cs[j]? = some (.int .u8 (b.toNat:Int))
theorem RpBy.keep{w wr wr':World}{u:Value}{l:List UInt8}(h:RpBy w wr u l)(k:KeepT 5 wr wr'):RpBy w wr' u l:=by
 obtain⟨g,cap,cs,fz,h1,h2,h3,h4⟩:=h;exact⟨g,cap,cs,fz,h1,h2,k _ _ _ h3,h4⟩
theorem d4r(w:World)(b:UInt8):(convert 85 9 (.slice (some ⟨w.heap.size,0,none⟩) 1 1)).run Tryz.prog (w.alloc (.cells #[.int .u8 (b.toNat:Int)] 5)) = .ok (.string ⟨#[b]⟩) (w.alloc (.cells #[.int .u8 (b.toNat:Int)] 5)):=by
 refine run_convert_bytes_back (P:=Tryz.prog) (w.alloc (.cells #[.int .u8 (b.toNat:Int)] 5)) 85 9 5 ⟨w.heap.size,0,none⟩ 1 [b] Tryz.underlying85 Tryz.underlying5 Tryz.underlying9 (fun j hj=>?_);have h0:j=0:=by simp at hj;exact hj
 subst h0;have e:((⟨w.heap.size,0,none⟩:Addr).add 0)=⟨w.heap.size,0,none⟩:=by unfold Addr.add;simp
 rw[e,cell_of_row _ _ 0 _ _ _ (heap_alloc_new w _)];rfl
theorem d4v(s:ByteArray)(w:World):(convert 9 85 (.string s)).run Tryz.prog w = .ok (.slice (some ⟨w.heap.size,0,none⟩) s.size (grownCap w s.size 0 5)) (w.drew.alloc (.cells (bytesRow s (grownCap w s.size 0 5)) 5 ((bytesRow s (grownCap w s.size 0 5)).size,(bytesRow s (grownCap w s.size 0 5)).size+1))):=run_bytes_of_string (P:=Tryz.prog) w 9 85 5 s Tryz.underlying9 Tryz.underlying85 Tryz.underlying5
theorem a9a(w:World)(o:Obj):(w.alloc o).heap.size=w.heap.size+1:=by simp
def RpEnt(w wr:World)(k j:Nat)(u:Value):Prop:=if j=10/\1<=k then RpBy w wr u [92,110]else if j=34/\2<=k then RpBy w wr u [92,34]else if j=92/\3<=k then RpBy w wr u [92,92]else u = .slice none 0 0
def e6a:List Value:=[rpS [10],rpS [34],rpS [92]]
structure RpB(w:World)(B:Nat)(wr:World)(k:Nat)(cur:Array Value)(v:Value):Prop where
 ext:Ext w wr
 base:w.heap.size<=B
 blk:wr.heap[B]? = some (.cells cur 333 (0,0))
 size:cur.size=257
 at256:cur[256]? = some v
 own:wr.ownsRow w.heap.size 9 1 v k (e6a.take k)
 all:∀j,j<256->∃u,cur[j]? = some u/\RpEnt w wr k j u
theorem D6{w:World}{B:Nat}{cur:Array Value}{T:TypeId}(h:w.heap[B]? = some (.cells cur T (0,0)))(j:Nat):w.frozen? ⟨B,j,none⟩=false:=by simp[World.frozen?,h]
theorem b0x{w wr w2:World}{B k:Nat}{cur:Array Value}{v:Value}(hb:RpB w B wr k cur v)(o1:Obj)(hg:(wr.alloc o1).grownBy w2 v.ownBlock):
  w2.heap[B]? = some (.cells cur 333 (0,0))/\KeepT 5 wr w2:=by
 have hk:=fun T (hT:9≠T)=>(KeepT.alloc (T:=T) wr o1).trans (KeepT.grown (hb.own.alloc o1) hg hT)
 exact⟨hk _ (by decide) _ _ _ hb.blk,hk _ (by decide)⟩
theorem a1F{w:World}{B:Nat}{cur:Array Value}{T:TypeId}(hB:w.heap[B]? = some (.cells cur T (0,0)))(j:Nat)(x:Value):(w.setCell ⟨B,j,none⟩ x).heap[B]? = some (.cells (cur.setIfInBounds j x) T (0,0)):=by
 rw[heap_setCell_same w B j cur T x hB]
theorem b0y{w wr w2:World}{B k o:Nat}{cur:Array Value}{v v':Value}(hb:RpB w B wr k cur v)(hE:Ext w w2)(h2:w2.heap[B]? = some (.cells cur 333 (0,0)))(h5:KeepT 5 wr w2)
  (hown:w2.ownsRow w.heap.size 9 1 v' (k+1) (e6a.take (k+1))) (bs:Array Value) (fz:Nat×Nat) (l:List UInt8) (cap:Nat) (hl:∀(j:Nat) (b:UInt8),l[j]? = some b->bs[j]? = some (.int .u8 (b.toNat:Int)))
  (ho:o<256) (hent:∀w' u,RpBy w w' u l->RpEnt w w' (k+1) o u) (hoth:∀w' j u,j≠o->RpEnt w w' k j u->RpEnt w w' (k+1) j u):
  RpB w B (((w2.setCell ⟨B,256,none⟩ v').setCell ⟨B,o,none⟩ (.slice (some ⟨w2.heap.size,0,none⟩) l.length cap)).alloc (.cells bs 5 fz)).drew (k+1)
   ((cur.setIfInBounds 256 v').setIfInBounds o (.slice (some ⟨w2.heap.size,0,none⟩) l.length cap)) v':=by
 have hs:=hb.size;have e1:=a1F h2 256 v';have e2:=a1F e1 o (.slice (some ⟨w2.heap.size,0,none⟩) l.length cap);have hk:=fun T (hT:333≠T)=>(((KeepT.set (T:=T) h2 hT 256 v').trans (KeepT.set e1 hT o (.slice (some ⟨w2.heap.size,0,none⟩) l.length cap))).trans (KeepT.alloc _ (.cells bs 5 fz))).trans (KeepT.drew _)
 refine⟨?_,hb.base,(Below.heap_alloc _ _ B (a2b e2)).trans e2,by simp[hs],?_,(hk 9 (by decide)).own hown,?_⟩
 ·exact((((hE.set_ (by exact hb.base) _).set_ (by exact hb.base) _).alloc _).drew)
 ·rw[Array.getElem?_setIfInBounds_ne (by omega),Array.getElem?_setIfInBounds_self_of_lt (by omega)]
 ·intro j hj;by_cases hjo:j=o
  ·subst hjo;refine⟨_,by rw[Array.getElem?_setIfInBounds_self_of_lt (by simp;omega)],hent _ _ ?_⟩;refine⟨w2.heap.size,cap,bs,fz,rfl,hE.size,?_,hl⟩;have:=heap_alloc_new ((w2.setCell ⟨B,256,none⟩ v').setCell ⟨B,j,none⟩ (.slice (some ⟨w2.heap.size,0,none⟩) l.length cap)) (.cells bs 5 fz);have e:((w2.setCell ⟨B,256,none⟩ v').setCell ⟨B,j,none⟩ (.slice (some ⟨w2.heap.size,0,none⟩) l.length cap)).heap.size=w2.heap.size:=by simp
   rw[e]at this;exact this
  ·obtain⟨u,hu,hq⟩:=hb.all j hj;refine⟨u,by rw[Array.getElem?_setIfInBounds_ne (Ne.symm hjo),Array.getElem?_setIfInBounds_ne (by omega)];exact hu,?_⟩;refine hoth _ j u hjo ?_;have hk5:=h5.trans (hk 5 (by decide));unfold RpEnt at hq ⊢;split
   ·rw[if_pos (by assumption)]at hq;exact hq.keep hk5
   rw[if_neg (by assumption)]at hq;split
   ·rw[if_pos (by assumption)]at hq;exact hq.keep hk5
   rw[if_neg (by assumption)]at hq;split
   ·rw[if_pos (by assumption)]at hq;exact hq.keep hk5
   rw[if_neg (by assumption)]at hq;exact hq
theorem b9h(a b:UInt8)(cap:Nat):∀(j:Nat) (c:UInt8),[a,b][j]? = some c->(bytesRow ⟨#[a,b]⟩ cap)[j]? = some (.int .u8 (c.toNat:Int)):=by
 intro j c h;have hj:j=0\/j=1:=by
  have:=(List.getElem?_eq_some_iff.1 h).1;simp at this;omega
 have hb:bytesRow ⟨#[a,b]⟩ cap = #[.int .u8 (a.toNat:Int),.int .u8 (b.toNat:Int)]++Array.replicate (cap-2) (.int .u8 0):=by
  show(#[a,b].map _++_)=_;simp;rfl
 rcases hj with rfl|rfl<;>(simp at h;subst h;rw[hb,Array.getElem?_append_left (by simp)];simp)
theorem d4w(w:World):RpB w (w.heap.size+1) ((w.alloc (.cells (Array.replicate 3 (.string ⟨#[]⟩)) 9)).alloc (.cells (rpC (.slice (some ⟨w.heap.size,0,none⟩) 0 3)) 333)) 0 (rpC (.slice (some ⟨w.heap.size,0,none⟩) 0 3)) (.slice (some ⟨w.heap.size,0,none⟩) 0 3):=by
 have hz:Tryz.zeroCells333.toList=List.replicate 257 (.slice none 0 0):=by kernel_rfl
 have hget:∀j,j<256->(rpC (.slice (some ⟨w.heap.size,0,none⟩) 0 3))[j]? = some (.slice none 0 0):=by
  intro j hj;show(Array.mk (Tryz.zeroCells333.toList.set 256 _))[j]? = _;rw[List.getElem?_toArray,List.getElem?_set_ne (by omega),hz,List.getElem?_replicate,if_pos (by omega)]
 refine⟨((Ext.refl w).alloc _).alloc _,by omega,?_,b3J _,?_,?_,fun j hj=>⟨_,hget j hj,by simp[RpEnt]⟩⟩
 ·have:=heap_alloc_new (w.alloc (.cells (Array.replicate 3 (.string ⟨#[]⟩)) 9)) (.cells (rpC (.slice (some ⟨w.heap.size,0,none⟩) 0 3)) 333);rw[a9a]at this;exact this
 ·show(Array.mk (Tryz.zeroCells333.toList.set 256 _))[256]? = _;rw[List.getElem?_toArray,List.getElem?_set_self (by rw[hz];simp)]
 ·refine World.ownsRow.alloc ?_ _;exact⟨rfl,.inr ⟨w.heap.size,3,Array.replicate 3 (.string ⟨#[]⟩),rfl,Nat.le_refl _,heap_alloc_new w _,by omega,by decide,by simp,by simp[e6a]⟩⟩
set_option maxHeartbeats 1600000 in
theorem d4q(R g c:Nat)(w:World)(hR:w.cell? ⟨R,4,none⟩=some (.slice (some ⟨g,0,none⟩) 6 c))(hrow:Row w (some ⟨g,0,none⟩) a6Q):
  Calls Tryz.prog 231 #[.pointer (some ⟨R,0,none⟩)] w fun e w'=>e = .returned (.iface 334 (.pointer (some ⟨w.heap.size+1,0,none⟩)))/\∃cur v,RpB w (w.heap.size+1) w' 3 cur v:=by
 obtain⟨ad2,hadd,hc⟩:=hrow (by decide);obtain rfl:⟨g,0,none⟩=ad2:=Option.some.inj hadd;have c0:w.cell? ⟨g,0,none⟩=some (.string ⟨#[92]⟩):=hc 0 _ rfl;have c1:w.cell? ⟨g,1,none⟩=some (.string ⟨#[92,92]⟩):=hc 1 _ rfl;have c2:w.cell? ⟨g,2,none⟩=some (.string ⟨#[34]⟩):=hc 2 _ rfl;have c3:w.cell? ⟨g,3,none⟩=some (.string ⟨#[92,34]⟩):=hc 3 _ rfl;have c4:w.cell? ⟨g,4,none⟩=some (.string ⟨#[10]⟩):=hc 4 _ rfl;have c5:w.cell? ⟨g,5,none⟩=some (.string ⟨#[92,110]⟩):=hc 5 _ rfl;clear hc hrow hadd;have hmk:∀w,(Instr.makeSlice 42 (.int .i64 0) (.int .i64 3)).run Tryz.prog w = .ok (.slice (some ⟨w.heap.size,0,none⟩) 0 3) (w.alloc (.cells (Array.replicate 3 (.string ⟨#[]⟩)) 9)):=fun _=>by kernel_rfl
 have heq:∀w,(binOp .eql 85 (.slice none 0 0) (.slice none 0 0)).run Tryz.prog w = .ok (.bool true) w:=fun _=>by kernel_rfl
 have hst:=e6g w (.cells (Array.replicate 3 (.string ⟨#[]⟩)) 9) (.slice (some ⟨w.heap.size,0,none⟩) 0 3) rfl
 go_enter Tryz.func231,Tryz.ntmps231
 go_wp2_with fail
 go_loop [4,5] (fun a i=>∃k:Nat,k<=3/\i = .int .i64 ((2*k:Nat):Int)/\a = .bool (decide (k=0))) (fun _ i=>6-(intOf i).toNat)
 case atStart=>exact⟨0,by omega,rfl,rfl⟩
 case round=>
  obtain⟨k,hk,rfl,rfl⟩:=hrel;have hk4:k=0\/k=1\/k=2\/k=3:=by omega
  rcases hk4 with rfl|rfl|rfl|rfl
  ·go_wp2_with fail
   go_round
   case rel=>exact⟨1,by omega,rfl,rfl⟩
   case measure=>simp[intOf]
  ·go_wp2_with fail
   go_round
   case rel=>exact⟨2,by omega,rfl,rfl⟩
   case measure=>simp[intOf]
  ·go_wp2_with fail
   go_round
   case rel=>exact⟨3,by omega,rfl,rfl⟩
   case measure=>simp[intOf]
  ·go_wp2_with fail
   go_loopw [12] (fun i wr=>∃(k:Nat) (cur:Array Value) (v:Value),k<=3/\i = .int .i64 (4-2*(k:Int))/\RpB w (w.heap.size+1) wr k cur v) (fun i _=>(match i with | .int _ n=>(n+2).toNat|_=>0))
   case atStart=>exact⟨0,_,_,by omega,rfl,d4w w⟩
   case round=>
    obtain⟨k,cur,v,hk2,rfl,hb⟩:=hrel;have hk4:k=0\/k=1\/k=2\/k=3:=by omega
    rcases hk4 with rfl|rfl|rfl|rfl
    ·have k1:wr.cell? ⟨w.heap.size+1,256,none⟩=some v:=(cell_of_row _ _ 256 _ _ (0,0) hb.blk).trans hb.at256;obtain⟨u,hu1,hu2⟩:=hb.all 10 (by omega);have k2:wr.cell? ⟨w.heap.size+1,10,none⟩=some u:=(cell_of_row _ _ 10 _ _ (0,0) hb.blk).trans hu1;obtain rfl:u = .slice none 0 0:=by simpa [RpEnt]using hu2
     have c4':=hb.ext.cell c4;have c5':=hb.ext.cell c5;have hcv:∀w:World,(convert 85 9 (.slice (some ⟨w.heap.size,0,none⟩) 1 1)).run Tryz.prog (w.alloc (.cells #[.int .u8 10] 5)) = .ok (.string ⟨#[10]⟩) (w.alloc (.cells #[.int .u8 10] 5)):=fun w=>d4r w 10
     have hsb:=d4v ⟨#[92,110]⟩
     go_wp2_with (at_builtin;refine b9G (w0:=w) rfl a9o rfl (hb.own.alloc _) (hb.ext.alloc _) rfl (cs:=#[.string ⟨#[10]⟩]) (by rw[a9a];rfl) rfl rfl (by omega) ?_;intro v' w2 hown hE2 hg hnn hor;obtain⟨A2,cc2,rfl⟩:=a7s hown (by omega);obtain⟨hB2,hk5⟩:=b0x hb _ hg;have kc:=(cell_of_row _ _ 256 _ _ _ hB2).trans hb.at256;have kf:=D6 hB2 256;have kc2:=(cell_of_row _ _ 10 _ _ _ hB2).trans hu1;have kf2:=D6 hB2 10;have hlt:=a2b hB2)
     go_roundw
     case rel=>exact⟨1,_,_,by omega,rfl,b0y hb hE2 hB2 hk5 hown _ _ [92,110] _ (b9h 92 110 _) (by omega) (fun w' u h=>by simpa [RpEnt]using h) (fun w' j u hj h=>by simp only[RpEnt]at h ⊢;simpa [hj]using h)⟩
     case measure=>simp
    ·have k1:wr.cell? ⟨w.heap.size+1,256,none⟩=some v:=(cell_of_row _ _ 256 _ _ (0,0) hb.blk).trans hb.at256;obtain⟨u,hu1,hu2⟩:=hb.all 34 (by omega);have k2:wr.cell? ⟨w.heap.size+1,34,none⟩=some u:=(cell_of_row _ _ 34 _ _ (0,0) hb.blk).trans hu1;obtain rfl:u = .slice none 0 0:=by simpa [RpEnt]using hu2
     have c2':=hb.ext.cell c2;have c3':=hb.ext.cell c3;have hcv:∀w:World,(convert 85 9 (.slice (some ⟨w.heap.size,0,none⟩) 1 1)).run Tryz.prog (w.alloc (.cells #[.int .u8 34] 5)) = .ok (.string ⟨#[34]⟩) (w.alloc (.cells #[.int .u8 34] 5)):=fun w=>d4r w 34
     have hsb:=d4v ⟨#[92,34]⟩
     go_wp2_with (at_builtin;refine b9G (w0:=w) rfl a9o rfl (hb.own.alloc _) (hb.ext.alloc _) rfl (cs:=#[.string ⟨#[34]⟩]) (by rw[a9a];rfl) rfl rfl (by omega) ?_;intro v' w2 hown hE2 hg hnn hor;obtain⟨A2,cc2,rfl⟩:=a7s hown (by omega);obtain⟨hB2,hk5⟩:=b0x hb _ hg;have kc:=(cell_of_row _ _ 256 _ _ _ hB2).trans hb.at256;have kf:=D6 hB2 256;have kc2:=(cell_of_row _ _ 34 _ _ _ hB2).trans hu1;have kf2:=D6 hB2 34;have hlt:=a2b hB2)
     go_roundw
     case rel=>exact⟨2,_,_,by omega,rfl,b0y hb hE2 hB2 hk5 hown _ _ [92,34] _ (b9h 92 34 _) (by omega) (fun w' u h=>by simpa [RpEnt]using h) (fun w' j u hj h=>by simp only[RpEnt]at h ⊢;simpa [hj]using h)⟩
     case measure=>simp
    ·have k1:wr.cell? ⟨w.heap.size+1,256,none⟩=some v:=(cell_of_row _ _ 256 _ _ (0,0) hb.blk).trans hb.at256;obtain⟨u,hu1,hu2⟩:=hb.all 92 (by omega);have k2:wr.cell? ⟨w.heap.size+1,92,none⟩=some u:=(cell_of_row _ _ 92 _ _ (0,0) hb.blk).trans hu1;obtain rfl:u = .slice none 0 0:=by simpa [RpEnt]using hu2
     have c0':=hb.ext.cell c0;have c1':=hb.ext.cell c1;have hcv:∀w:World,(convert 85 9 (.slice (some ⟨w.heap.size,0,none⟩) 1 1)).run Tryz.prog (w.alloc (.cells #[.int .u8 92] 5)) = .ok (.string ⟨#[92]⟩) (w.alloc (.cells #[.int .u8 92] 5)):=fun w=>d4r w 92
     have hsb:=d4v ⟨#[92,92]⟩
     go_wp2_with (at_builtin;refine b9G (w0:=w) rfl a9o rfl (hb.own.alloc _) (hb.ext.alloc _) rfl (cs:=#[.string ⟨#[92]⟩]) (by rw[a9a];rfl) rfl rfl (by omega) ?_;intro v' w2 hown hE2 hg hnn hor;obtain⟨A2,cc2,rfl⟩:=a7s hown (by omega);obtain⟨hB2,hk5⟩:=b0x hb _ hg;have kc:=(cell_of_row _ _ 256 _ _ _ hB2).trans hb.at256;have kf:=D6 hB2 256;have kc2:=(cell_of_row _ _ 92 _ _ _ hB2).trans hu1;have kf2:=D6 hB2 92;have hlt:=a2b hB2)
     go_roundw
     case rel=>exact⟨3,_,_,by omega,rfl,b0y hb hE2 hB2 hk5 hown _ _ [92,92] _ (b9h 92 92 _) (by omega) (fun w' u h=>by simpa [RpEnt]using h) (fun w' j u hj h=>by simp only[RpEnt]at h ⊢;simpa [hj]using h)⟩
     case measure=>simp
    ·go_wp2_with fail
     go_ret
     exact⟨rfl,_,_,hb⟩
end
section
def rpI(B:Nat):Value:= .iface 334 (.pointer (some ⟨B,0,none⟩))
def RpT(w0 w:World)(B:Nat):Prop:=∃cur v,RpB w0 B w 3 cur v
theorem RpEnt.keep{w0 w w':World}{k j:Nat}{u:Value}(h:RpEnt w0 w k j u)(hk:KeepT 5 w w'):RpEnt w0 w' k j u:=by
 unfold RpEnt at h ⊢;split
 ·rw[if_pos (by assumption)]at h;exact h.keep hk
 rw[if_neg (by assumption)]at h;split
 ·rw[if_pos (by assumption)]at h;exact h.keep hk
 rw[if_neg (by assumption)]at h;split
 ·rw[if_pos (by assumption)]at h;exact h.keep hk
 rw[if_neg (by assumption)]at h;exact h
theorem RpB.keep{w0 w w':World}{B k:Nat}{cur:Array Value}{v:Value}(h:RpB w0 B w k cur v)(hE:Ext w0 w')(h1:KeepT 5 w w')(h2:KeepT 9 w w')(h3:KeepT 333 w w'):RpB w0 B w' k cur v:=
 ⟨hE,h.base,h3 _ _ _ h.blk,h.size,h.at256,h2.own h.own,fun j hj=>let ⟨u,a,b⟩:=h.all j hj;⟨u,a,b.keep h1⟩⟩
set_option maxHeartbeats 1600000 in
theorem e09(R g c:Nat)(x0 x1 x2:Value)(w:World)(hR:w.heap[R]? = some (.cells #[x0,x1,x2,.nilIface,.slice (some ⟨g,0,none⟩) 6 c] 261 (0,0)))(hrow:Row w (some ⟨g,0,none⟩) a6Q):
  Calls Tryz.prog 187 #[.pointer (some ⟨R,0,none⟩)] w fun e w'=>e = .returned (.tuple #[])/\
   ∃wb cur v,RpB w (w.heap.size+1) wb 3 cur v/\w'=(wb.setCell ⟨R,3,none⟩ (rpI (w.heap.size+1))).setCell ⟨R,4,none⟩ (.slice none 0 0):=by
 have h4:w.cell? ⟨R,4,none⟩=some (.slice (some ⟨g,0,none⟩) 6 c):=cell_of_row _ _ 4 _ _ _ hR;have h3:w.cell? ⟨R,3,none⟩=some .nilIface:=cell_of_row _ _ 3 _ _ _ hR;have f3:=D6 hR 3;have f4:=D6 hR 4;have hlt:=a2b hR
 go_enter Tryz.func187,Tryz.ntmps187
 go_wp2_with (go_at_call 231;refine(d4q R g c _ h4 hrow).mono ?_;rintro e wb ⟨rfl,cur,v,hb⟩;have k3:=hb.ext.cell h3;have k4:=hb.ext.cell h4;have hRb:=(hb.ext.block R hlt).trans hR;have g3:=D6 hRb 3;have g4:=D6 hRb 4)
 go_end0
 exact⟨rfl,wb,cur,v,hb,rfl⟩
theorem RpBy.weak{w0 w1 wr:World}{u:Value}{l:List UInt8}(h:RpBy w1 wr u l)(hs:w0.heap.size<=w1.heap.size):RpBy w0 wr u l:=by
 obtain⟨g,cap,cs,fz,h1,h2,h3,h4⟩:=h;exact⟨g,cap,cs,fz,h1,by omega,h3,h4⟩
theorem RpB.weak{w0 w1 wr:World}{B:Nat}{cur:Array Value}{v:Value}(h:RpB w1 B wr 3 cur v)(hs:w0.heap.size<=w1.heap.size)(hE:Ext w0 wr):RpB w0 B wr 3 cur v:=by
 refine⟨hE,by have:=h.base;omega,h.blk,h.size,h.at256,?_,fun j hj=>?_⟩
 ·obtain⟨h1,h2⟩:=h.own;refine⟨h1,?_⟩;rcases h2 with h2|⟨g,cap,cur',hv,hg,r⟩
  ·exact .inl h2
  ·exact .inr ⟨g,cap,cur',hv,by omega,r⟩
 ·obtain⟨u,a,b⟩:=h.all j hj;refine⟨u,a,?_⟩;unfold RpEnt at b ⊢;split
  ·rw[if_pos (by assumption)]at b;exact b.weak hs
  rw[if_neg (by assumption)]at b;split
  ·rw[if_pos (by assumption)]at b;exact b.weak hs
  rw[if_neg (by assumption)]at b;split
  ·rw[if_pos (by assumption)]at b;exact b.weak hs
  rw[if_neg (by assumption)]at b;exact b
theorem d4s(w0:World)(R g c:Nat)(w:World)(hE:Ext w0 w)(hR0:w0.heap.size<=R)
  (hR:w.heap[R]? = some (.cells #[.int .u32 0,.int .i32 0,.int .u32 0,.nilIface,.slice (some ⟨g,0,none⟩) 6 c] 261 (0,0))) (hrow:Row w (some ⟨g,0,none⟩) a6Q) (hg:g≠R):
  Calls Tryz.prog 186 #[.pointer (some ⟨R,0,none⟩),.func (.func 187) #[.pointer (some ⟨R,0,none⟩)] #[]] w fun e w'=>e = .returned (.tuple #[])/\
   Ext w0 w'/\∃B,w'.cell? ⟨R,3,none⟩=some (rpI B)/\RpT w0 w' B:=by
 have h0:w.cell? ⟨R,0,none⟩=some (.int .u32 0):=cell_of_row _ _ 0 _ _ _ hR;have h1:w.cell? ⟨R,1,none⟩=some (.int .i32 0):=cell_of_row _ _ 1 _ _ _ hR;have hR1:=a1F hR 1 (.int .i32 1);have hrow1:Row (w.setCell ⟨R,1,none⟩ (.int .i32 1)) (some ⟨g,0,none⟩) a6Q:=fun hn=>by
  obtain⟨ad,e,hc⟩:=hrow hn;refine⟨ad,e,fun j u hu=>?_⟩;have hb:(ad.add j).block=g:=by rw[b8G];have:=Option.some.inj e;rw[<-this]
  rw[World.cell?_of_block (a:=ad.add j) (Below.heap_setCell w ⟨R,1,none⟩ _ _ (by rw[hb];exact hg))];exact hc j u hu
 have hE1:Ext w0 (w.setCell ⟨R,1,none⟩ (.int .i32 1)):=hE.set_ hR0 _;have hS:∀w',(∃wb cur v,RpB (w.setCell ⟨R,1,none⟩ (.int .i32 1)) ((w.setCell ⟨R,1,none⟩ (.int .i32 1)).heap.size+1) wb 3 cur v/\w'=(wb.setCell ⟨R,3,none⟩ (rpI ((w.setCell ⟨R,1,none⟩ (.int .i32 1)).heap.size+1))).setCell ⟨R,4,none⟩ (.slice none 0 0))->
   w'.heap[R]? = some (.cells #[.int .u32 0,.int .i32 1,.int .u32 0,rpI ((w.setCell ⟨R,1,none⟩ (.int .i32 1)).heap.size+1),.slice none 0 0] 261 (0,0)):=by
  rintro w' ⟨wb,cur,v,hb,rfl⟩;have hRb:=(hb.ext.block R (a2b hR1)).trans hR1;exact a1F (a1F hRb 3 _) 4 _
 refine(f0G R 0 #[.pointer (some ⟨R,0,none⟩)] _ w h0 h1 (D6 hR 0) (D6 hR 1) (e09 R g c _ _ _ _ hR1 hrow1) (fun w' h=>?_)).mono ?_
 ·have hk:=hS w' h;exact⟨cell_of_row _ _ 0 _ _ _ hk,cell_of_row _ _ 1 _ _ _ hk,D6 hk 0,D6 hk 1⟩
 ·rintro e w' ⟨rfl,w2,h,rfl⟩;have hk:=hS w2 h;obtain⟨wb,cur,v,hb,rfl⟩:=h;have hk0:=a1F (w:=(((wb.setCell ⟨R,3,none⟩ (rpI ((w.setCell ⟨R,1,none⟩ (.int .i32 1)).heap.size+1))).setCell ⟨R,4,none⟩ (.slice none 0 0))).drew) hk 0 (.int .u32 1);have hk1:=a1F hk0 1 (.int .i32 0);have hEb:Ext w0 wb:=hE1.trans hb.ext;have hRb:=(hb.ext.block R (a2b hR1)).trans hR1;have hEw:Ext w0 (((((wb.setCell ⟨R,3,none⟩ (rpI ((w.setCell ⟨R,1,none⟩ (.int .i32 1)).heap.size+1))).setCell ⟨R,4,none⟩ (.slice none 0 0))).drew.setCell ⟨R,0,none⟩ (.int .u32 1)).setCell ⟨R,1,none⟩ (.int .i32 0)):=
   ((((hEb.set_ hR0 _).set_ hR0 _).drew).set_ hR0 _).set_ hR0 _
  refine⟨rfl,hEw,_,cell_of_row _ _ 3 _ _ _ hk1,cur,v,?_⟩;have kp:=fun T (hT:261≠T)=>((((KeepT.set (T:=T) hRb hT 3 (rpI ((w.setCell ⟨R,1,none⟩ (.int .i32 1)).heap.size+1))).trans (KeepT.set (a1F hRb 3 _) hT 4 (.slice none 0 0))).trans (KeepT.drew _)).trans (KeepT.set (w:=(((wb.setCell ⟨R,3,none⟩ (rpI ((w.setCell ⟨R,1,none⟩ (.int .i32 1)).heap.size+1))).setCell ⟨R,4,none⟩ (.slice none 0 0))).drew) hk hT 0 (.int .u32 1))).trans (KeepT.set hk0 hT 1 (.int .i32 0))
  exact(hb.weak (by have:=hE1.size;exact this) hEb).keep hEw (kp _ (by decide)) (kp _ (by decide)) (kp _ (by decide))
end
end Go.Proofs.YtckdohagilcloaaGreatDoor
