/- % -/
import Derived.Test.YtolpmfhiegpohaaGreatDoorQPaF10
namespace Go.Proofs.YtolpmfhiegpohaaGreatDoor
open Go Go.RowKit
set_option maxRecDepth 100000
set_option linter.unusedVariables false
noncomputable section
variable(N:Nat)
def O8(_N:Nat)(a:List d7):Option τ20:=some a
abbrev e0R(f:SV [.v N3]->BV []->Option τ20):AF:={ps:=[.v N3],bs:=[],rs:=[.fnc 226 [0]],cs:=[.cells [.v N3]],R:=List d7,out:=fun z=>(((),()),(z,()),()),f:=f}
abbrev z8g:AF:=e0R fun x _=>O8 N x.1
def d6K(_N:Nat):FuncId->Option Tmp->Option AF:=fun f _=>lkF [] f
theorem d3J:X8 (d6K N):=fun _ _ _ h=>B9 h T8
def z8h:Nat->Hint:=fun i=>
 match i with
 |_=>y5
abbrev z8E:Env:=mkE z8h (d6K N) (fun _=>false) (fun i=>match i with|226=>true|_=>false)
theorem d3K:Snd 183 (z8g N):=
 a6K (z8E N) (O3 z8h (d6K N) _ _ (d3J N)) Tryz.func183 rfl Tryz.call183 (z8g N) (fun _ y=>y.1.1) (fun _ _=>rfl) N (fun _ _=>by kernel_rfl) rfl
def W9(_N:Nat)(a:List d7):Option (List d7×List d7):=j8 (P6 a) fun b=>some b
abbrev d74:=sgM [.fnc 226 [0]] [.cells [.v N3]] [.row 1] [.cells [.v N3],.row 9 .str true] (List d7×List d7) fun z=>(((),()),(z.1,()),z.2,())
abbrev d55:AF:=d74 fun _ y=>W9 N y.1.1
theorem c8q:Snd 224 (d55 N):=
 a2o h0 [(260,d8Z fun _ y=>P6 y.1.1)] (L3 (d0B) T8) Tryz.func224 rfl Tryz.call224 (d55 N) (fun _ y=>(y.1.1,y.2.1)) (fun _ _=>rfl) N (fun _ _=>by kernel_rfl) rfl
def Y4(b:List d7):Option (List d7×List d7):=j8 (W9 N b) fun a=>j8 (C2 a.2) fun c=>some (a.1,c)
abbrev d8e:=sgM [.fnc 226 [0]] [.cells [.v N3]] [.row 1] [.cells [.v N3],.row 9 .str true] (List d7×List d7) fun z=>(((),()),(z.1,()),z.2,())
abbrev d6a:AF:=d8e fun _ y=>Y4 N y.1.1
theorem c8J:Snd 182 (d6a N):=
 a2o h0 [(224,d55 N),(225,d7I fun _ y=>C2 y.1)] (L3 (c8q N) (L3 (c7F) T8)) Tryz.func182 rfl Tryz.call182 (d6a N) (fun _ y=>(y.1.1,y.2.1)) (fun _ _=>rfl) N (fun _ _=>by kernel_rfl) rfl
def K0(_N:Nat)(a:List d7):Option τ20:=br ((a).isEmpty) (n8 (some ([]:List d7)) (br (Zf (([]:List d7).length+a.length) .str) (some ([]++a)) none)) (br (Zf (([]:List d7).length+a.length) .str) (some ([]++a)) none)
abbrev e0W(f:SV [.v N3]->BV []->Option τ20):AF:={ps:=[.v N3],bs:=[],rs:=[.row 0],cs:=[.row 9 .str true],R:=List d7,out:=fun z=>(((),()),z,()),f:=f}
abbrev z9g:AF:=e0W fun x _=>K0 N x.1
def d6R(_N:Nat):FuncId->Option Tmp->Option AF:=fun f _=>lkF [] f
theorem d3V:X8 (d6R N):=fun _ _ _ h=>B9 h T8
def z9h:Nat->Hint:=fun i=>
 match i with
 |_=>y5
abbrev z9E:Env:=mkE z9h (d6R N) (fun i=>match i with|2=>true|5=>true|_=>false) (fun _=>false)
theorem d3W:Snd 185 (z9g N):=
 a6K (z9E N) (O3 z9h (d6R N) _ _ (d3V N)) Tryz.func185 rfl Tryz.call185 (z9g N) (fun _ y=>y.1) (fun _ _=>rfl) N (fun _ _=>by kernel_rfl) rfl
def r7(b:List d7):Option Bool:=j8 (O8 N b) fun c=>j8 (Y4 N c) fun a=>j8 (K0 N a.2) fun e=>j8 (x8 e) fun g=>some (decide ((g.length:Int)<(a.2.length:Int)))
abbrev d5I:=sgM [.v N3] [] [V3] [] (Bool) fun z=>((z,()),())
abbrev c2X:AF:=d5I fun x _=>r7 N x.1
def c0G:FuncId->Option Tmp->Option AF:=fun f _=>lkF [(182,d6a N),(183,z8g N),(184,e0F fun _ y=>x8 y.1),(185,z9g N)] f
theorem c4U:X8 (c0G N):=fun _ _ _ h=>B9 h (L3 (c8J N) (L3 (d3K N) (L3 (d3j) (L3 (d3W N) T8))))
def d4h:Nat->Hint:=fun i=>
 match i with
 |_=>y5
abbrev d7x:Env:=mkE d4h (c0G N) FF FF |>.jk (fun _=>none)
theorem b5j:Snd 145 (c2X N):=
 a6K (d7x N) (EnvOk.jk (O3 d4h (c0G N) _ _ (c4U N)) _) Tryz.func145 rfl Tryz.call145 (c2X N) (fun x _=>x.1) (fun _ _=>rfl) N (fun _ _=>by kernel_rfl) rfl
def E0(a:GStmt)(x1:Int):Option Int:=br (decide (x1>=30)) (some (2:Int)) (j8 (br (decide (a.kind<1)) (some true) (some (decide (a.kind>6)))) fun ai=>br (ai) (some (4:Int)) (n8 (j8 (S6 N (GStmt.mk a.kind a.name a.text a.params a.args (Ze a.expr) a.body a.els a.at_)) fun b=>k7 1 (j8 (J8 N (GStmt.mk a.kind a.name a.text a.params a.args (Ze a.expr) a.body a.els a.at_)) fun c=>br (b.1) (j8 (y7 N a.name) fun e=>br (e) (some (5:Int)) (j8 (br (b.2.2.1) (j8 (l5 N a.params ()) fun g=>some g) (some false)) fun l=>br (l) (some (5:Int)) (j8 (br (b.2.2.2.1) (j8 (l5 N c ()) fun m=>some m) (some false)) fun o=>br (o) (some (5:Int)) (j8 (br (!b.1) (some (!(a.name==[]))) (some false)) fun p=>br (p) (some (3:Int)) (j8 (br (!b.2.1) (some (!(a.text==[]))) (some false)) fun q=>br (q) (some (3:Int)) (j8 (br (!b.2.2.1) (some (decide ((a.params.length:Int)>0))) (some false)) fun r=>br (r) (some (3:Int)) (j8 (br (!b.2.2.2.1) (some (decide ((c.length:Int)>0))) (some false)) fun t=>br (t) (some (3:Int)) (j8 (br (!b.2.2.2.2.1) (j8 (P0 N (Ze a.expr)) fun u=>some (!u)) (some false)) fun v=>br (v) (some (3:Int)) (j8 (br (!b.2.2.2.2.2.1) (some (decide ((a.body.length:Int)>0))) (some false)) fun w=>br (w) (some (3:Int)) (j8 (br (!b.2.2.2.2.2.2) (some (decide ((a.els.length:Int)>0))) (some false)) fun B=>br (B) (some (3:Int)) (j8 (u0 N a.text) fun C=>br (!C) (some (3:Int)) (j8 (br (decide ((a.params.length:Int)>30)) (some true) (some (decide ((c.length:Int)>30)))) fun D=>br (D) (some (2:Int)) (j8 (j8 (r7 N a.params) fun E=>br (E) (some true) (j8 (r7 N c) fun H=>some H)) fun J=>br (J) (some (7:Int)) (some (0:Int))))))))))))))) (j8 (br (b.2.2.1) (j8 (l5 N a.params ()) fun K=>some K) (some false)) fun L=>br (L) (some (5:Int)) (j8 (br (b.2.2.2.1) (j8 (l5 N c ()) fun O=>some O) (some false)) fun Q=>br (Q) (some (5:Int)) (j8 (br (!b.1) (some (!(a.name==[]))) (some false)) fun R=>br (R) (some (3:Int)) (j8 (br (!b.2.1) (some (!(a.text==[]))) (some false)) fun T=>br (T) (some (3:Int)) (j8 (br (!b.2.2.1) (some (decide ((a.params.length:Int)>0))) (some false)) fun U=>br (U) (some (3:Int)) (j8 (br (!b.2.2.2.1) (some (decide ((c.length:Int)>0))) (some false)) fun V=>br (V) (some (3:Int)) (j8 (br (!b.2.2.2.2.1) (j8 (P0 N (Ze a.expr)) fun W=>some (!W)) (some false)) fun Y=>br (Y) (some (3:Int)) (j8 (br (!b.2.2.2.2.2.1) (some (decide ((a.body.length:Int)>0))) (some false)) fun aa=>br (aa) (some (3:Int)) (j8 (br (!b.2.2.2.2.2.2) (some (decide ((a.els.length:Int)>0))) (some false)) fun ab=>br (ab) (some (3:Int)) (j8 (u0 N a.text) fun ac=>br (!ac) (some (3:Int)) (j8 (br (decide ((a.params.length:Int)>30)) (some true) (some (decide ((c.length:Int)>30)))) fun ad=>br (ad) (some (2:Int)) (j8 (j8 (r7 N a.params) fun ae=>br (ae) (some true) (j8 (r7 N c) fun af=>some af)) fun ag=>br (ag) (some (7:Int)) (some (0:Int)))))))))))))))) (j8 (S6 N (GStmt.mk a.kind a.name a.text a.params a.args (Ze a.expr) a.body a.els a.at_)) fun b=>j8 (J8 N (GStmt.mk a.kind a.name a.text a.params a.args (Ze a.expr) a.body a.els a.at_)) fun c=>br (b.1) (j8 (y7 N a.name) fun e=>br (e) (some (5:Int)) (j8 (br (b.2.2.1) (j8 (l5 N a.params ()) fun g=>some g) (some false)) fun l=>br (l) (some (5:Int)) (j8 (br (b.2.2.2.1) (j8 (l5 N c ()) fun m=>some m) (some false)) fun o=>br (o) (some (5:Int)) (j8 (br (!b.1) (some (!(a.name==[]))) (some false)) fun p=>br (p) (some (3:Int)) (j8 (br (!b.2.1) (some (!(a.text==[]))) (some false)) fun q=>br (q) (some (3:Int)) (j8 (br (!b.2.2.1) (some (decide ((a.params.length:Int)>0))) (some false)) fun r=>br (r) (some (3:Int)) (j8 (br (!b.2.2.2.1) (some (decide ((c.length:Int)>0))) (some false)) fun t=>br (t) (some (3:Int)) (j8 (br (!b.2.2.2.2.1) (j8 (P0 N (Ze a.expr)) fun u=>some (!u)) (some false)) fun v=>br (v) (some (3:Int)) (j8 (br (!b.2.2.2.2.2.1) (some (decide ((a.body.length:Int)>0))) (some false)) fun w=>br (w) (some (3:Int)) (j8 (br (!b.2.2.2.2.2.2) (some (decide ((a.els.length:Int)>0))) (some false)) fun B=>br (B) (some (3:Int)) (j8 (u0 N a.text) fun C=>br (!C) (some (3:Int)) (j8 (br (decide ((a.params.length:Int)>30)) (some true) (some (decide ((c.length:Int)>30)))) fun D=>br (D) (some (2:Int)) (j8 (j8 (r7 N a.params) fun E=>br (E) (some true) (j8 (r7 N c) fun H=>some H)) fun J=>br (J) (some (7:Int)) (some (0:Int))))))))))))))) (j8 (br (b.2.2.1) (j8 (l5 N a.params ()) fun K=>some K) (some false)) fun L=>br (L) (some (5:Int)) (j8 (br (b.2.2.2.1) (j8 (l5 N c ()) fun O=>some O) (some false)) fun Q=>br (Q) (some (5:Int)) (j8 (br (!b.1) (some (!(a.name==[]))) (some false)) fun R=>br (R) (some (3:Int)) (j8 (br (!b.2.1) (some (!(a.text==[]))) (some false)) fun T=>br (T) (some (3:Int)) (j8 (br (!b.2.2.1) (some (decide ((a.params.length:Int)>0))) (some false)) fun U=>br (U) (some (3:Int)) (j8 (br (!b.2.2.2.1) (some (decide ((c.length:Int)>0))) (some false)) fun V=>br (V) (some (3:Int)) (j8 (br (!b.2.2.2.2.1) (j8 (P0 N (Ze a.expr)) fun W=>some (!W)) (some false)) fun Y=>br (Y) (some (3:Int)) (j8 (br (!b.2.2.2.2.2.1) (some (decide ((a.body.length:Int)>0))) (some false)) fun aa=>br (aa) (some (3:Int)) (j8 (br (!b.2.2.2.2.2.2) (some (decide ((a.els.length:Int)>0))) (some false)) fun ab=>br (ab) (some (3:Int)) (j8 (u0 N a.text) fun ac=>br (!ac) (some (3:Int)) (j8 (br (decide ((a.params.length:Int)>30)) (some true) (some (decide ((c.length:Int)>30)))) fun ad=>br (ad) (some (2:Int)) (j8 (j8 (r7 N a.params) fun ae=>br (ae) (some true) (j8 (r7 N c) fun af=>some af)) fun ag=>br (ag) (some (7:Int)) (some (0:Int)))))))))))))))))
abbrev d8P:=sgM [.v τ17,V0] [] [V0] [] (Int) fun z=>((z,()),())
abbrev d6u:AF:=d8P fun x _=>E0 N x.1 x.2.1
def d0c:FuncId->Option Tmp->Option AF:=fun f _=>lkF [(84,b8J N),(140,d0Y N),(141,d2P N),(142,z1g N),(143,d6P N),(144,c1L N),(145,c2X N)] f
theorem d0d:X8 (d0c N):=fun _ _ _ h=>B9 h (L3 (a9T N) (L3 (d00 N) (L3 (b8T N) (L3 (d2D N) (L3 (d1m N) (L3 (a87 N) (L3 (b5j N) T8)))))))
def d8O:Nat->Hint:=fun i=>
 match i with
 |100005=>⟨[1002],[],[],[],[],[]⟩
 |_=>y5
abbrev e0K:Env:=mkE d8O (d0c N) FF FF |>.jk (fun i=>match i with|3=>some 17|8=>some 22|9=>some 22|11=>some 46|12=>some 46|13=>some 46|14=>some 46|15=>some 46|16=>some 46|17=>some 46|21=>some 112|23=>some 122|_=>none)
theorem d0e:Snd 86 (d6u N):=
 a6K (e0K N) (EnvOk.jk (O3 d8O (d0c N) _ _ (d0d N)) _) Tryz.func86 rfl Tryz.call86 (d6u N) (fun x _=>x.1) (fun _ _=>rfl) N (fun _ _=>by kernel_rfl) rfl
def T5(a:d7):Option Bool:=j8 (u0 N a) fun b=>some (!b)
abbrev d7M:=sgM [V1] [] [V3] [] (Bool) fun z=>((z,()),())
abbrev d5T:AF:=d7M fun x _=>T5 N x.1
theorem c7R:Snd 186 (d5T N):=
 a2o h0 [(144,c1L N)] (L3 (a87 N) T8) Tryz.func186 rfl Tryz.call186 (d5T N) (fun x _=>x.1) (fun _ _=>rfl) N (fun _ _=>by kernel_rfl) rfl
def b8R(b:List d7)(c:Int)(k0:Option Int)(self:ρ21)(a:Int):Option Int:=br (decide (a<c)) (j8 (m6 b a) fun e=>j8 (T5 N e) fun g=>br (g) (some a) (self (IntKind.i64.wrap (a+1)))) (k0)
def c8o(N:Nat)(a:List d7)(b:Int)(k0:Option Int):Nat->Int->Option Int|0,_=>none|n+1,c=>b8R N a b k0 (c8o N a b k0 n) c
def F8(a:List d7)(_b:Unit):Option Int:=c8o N a (a.length:Int) (some (-1:Int)) N 0
abbrev e0t:=sgM [.v N3,.v (.clo 186 .un)] [] [V0] [] (Int) fun z=>((z,()),())
abbrev z2g:AF:=e0t fun x _=>F8 N x.1 x.2.1
abbrev d54:SV [V0]->BV []->Int:=fun x _=>x.1
def d71:FuncId->Option Tmp->Option AF:=fun f _=>lkF [(186,d5T N)] f
theorem d2K:X8 (d71 N):=fun _ _ _ h=>B9 h (L3 (c7R N) T8)
def z2h:Nat->Hint:=fun i=>
 match i with
 |0=>⟨[],[0,1,7,8],[],[],[],[]⟩
 |_=>y5
abbrev z2E:Env:=mkE z2h (d71 N) FF FF
abbrev z2R:=L9 (z2E N) Tryz.f181 (z2g N) d54
abbrev b0R:List (Nat×Sl):=[(0,.v N3),(1,.v (.clo 186 .un)),(7,V0),(8,V0)]
abbrev b0Q:List (Nat×Sb):=[]
def b6T(a:List d7)(b:Unit)(c e:Int):St:=⟨19,[(0,.v N3 a),(1,.v (.clo 186 .un) b),(7,.v τ2 c),(8,.v τ2 e)],[]⟩
def a8f(_a:List d7)(_b:Unit)(_c:Int):St:=⟨19,[],[]⟩
def d51(a:List d7)(c:Unit)(b e:Int)(k:Ex->St->Option Int):Option Int:=c8o N a b (k (.exit 0) (a8f a c b)) N e
abbrev c8p:FV b0R->HV b0Q->(Ex->St->Option Int)->Option Int:=fun x _ k=>d51 N x.1 x.2.1 x.2.2.1 x.2.2.2.1 k
def c0S:Nat->Code->St->(Ex->St->Option Int)->Option Int:=fun i c=>
 match i with
 |0=>(LPc 19 b0R b0Q (c8p N) (fun st k=>iter (z2h 0) (o7 (z2E N) N c 0) N st k))
 |i=>fun st k=>iter (z2h i) (o7 (z2E N) N c i) N st k
theorem c6p(a:List d7)(e:Unit)(b:Int)(KX:Nat->St->Option Int)(I:St->Option Int)(c:Int):
  p8 (c0S N) (z2E N) b0v 0 (b6T a e b c) (F9 (z2h 0) I KX (z2R N))=b8R N a b (KX 0 (a8f a e b)) (fun c=>I (b6T a e b c)) c:=by kernel_rfl
theorem d2J:∀x y k,(∀st,k .ret st=(z2R N) st)->iter (z2h 0) (o7 (z2E N) N b0v 0) N ⟨19,unF b0R x,unH b0Q y⟩ k=c8p N x y k:=fun x _ k hk=>
 p9 (S:=(Int)×Unit) (z2h 0) _ (p8 (c0S N) (z2E N) b0v 0) (z2R N) (u9 _ _ N _ b0v 0 (show LoopsOk (c0S N) (z2E N) N (z2R N) []from trivial)) (fun s=>b6T x.1 x.2.1 x.2.2.1 s.1) k hk
  (fun self s=>b8R N x.1 x.2.2.1 (k (.exit 0) (a8f x.1 x.2.1 x.2.2.1)) (fun a=>self (a,())) s.1) (fun n s=>c8o N x.1 x.2.2.1 (k (.exit 0) (a8f x.1 x.2.1 x.2.2.1)) n s.1) (fun _=>rfl) (fun _ _=>rfl)
  (fun I s=>c6p N x.1 x.2.1 x.2.2.1 (fun j=>k (.exit j)) I s.1) N (x.2.2.2.1,())
theorem d73:Z1 (c0S N) (z2E N) N (z2R N) 0 b0v:=fun st k hk=>H3 19 b0R b0Q _ _ (z2R N) (d2J N) _ st k hk (rfl)
theorem d53(x:SV [.v N3,.v (.clo 186 .un)])(y:BV []):V4 (z2E N) Tryz.f181 (z2g N) d54 (c0S N) x y=F8 N x.1 x.2.1:=by kernel_rfl
theorem d2L:Snd 181 (z2g N):=
 a9J (d2K N) Tryz.func181 rfl Tryz.call181 (z2g N) d54 (fun _ _=>rfl) N (c0S N) (show LoopsOk (c0S N) (z2E N) N (z2R N) [(0,b0v)]from⟨d73 N,trivial⟩) (d53 N)
def l6(a:List d7)(b:Unit):Option Bool:=j8 (F8 N a b) fun c=>some (decide (c>=0))
abbrev e0h:=sgM [.v N3,.v (.clo 186 .un)] [] [V3] [] (Bool) fun z=>((z,()),())
abbrev z0g:AF:=e0h fun x _=>l6 N x.1 x.2.1
theorem d2t:Snd 142 (z0g N):=
 a2o h0 [(181,z2g N)] (L3 (d2L N) T8) Tryz.func142 rfl Tryz.call142 (z0g N) (fun x _=>x.1) (fun _ _=>rfl) N (fun _ _=>by kernel_rfl) rfl
end
end Go.Proofs.YtolpmfhiegpohaaGreatDoor
