/- % -/
import Derived.Test.YtolpmfhiegpohaaGreatDoorQPaF10
namespace Go.Proofs.YtolpmfhiegpohaaGreatDoor
open Go Go.RowKit
set_option maxRecDepth 100000
set_option linter.unusedVariables false
noncomputable section
variable(N:Nat)
def U1(_N:Nat)(a:List d9):Option τ20:=some a
abbrev e3X(f:SV [.v τ13]->BV []->Option τ20):AF:={ps:=[.v τ13],bs:=[],rs:=[.fnc 226 [0]],cs:=[.cells [.v τ13]],R:=List d9,out:=fun z=>(((),()),(z,()),()),f:=f}
abbrev z8g:AF:=e3X fun x _=>U1 N x.1
def e2e(_N:Nat):FuncId->Option Tmp->Option AF:=fun f _=>t7 [] f
theorem d6V:a1f (e2e N):=fun _ _ _ h=>D7 h lkn
def z8h:Nat->Hint:=fun i=>
 match i with
 |_=>B8
abbrev z8E:Env:=mkE z8h (e2e N) (fun _=>false) (fun i=>match i with|226=>true|_=>false)
theorem c60:Snd 183 (z8g N):=
 b0u (z8E N) (P8 z8h (e2e N) _ _ (d6V N)) Tryz.func183 rfl Tryz.call183 (z8g N) (fun _ y=>y.1.1) (fun _ _=>rfl) N (fun _ _=>by kernel_rfl) rfl
def a0Q(_N:Nat)(a:List d9):Option (List d9×List d9):=j8 (Q6 a) fun b=>some b
abbrev e0Z:=sgM [.fnc 226 [0]] [.cells [.v τ13]] [.row 1] [.cells [.v τ13],.row 9 .str true] (List d9×List d9) fun z=>(((),()),(z.1,()),z.2,())
abbrev d5M:AF:=e0Z fun _ y=>a0Q N y.1.1
theorem d1r:Snd 224 (d5M N):=
 a4W h0 [(260,d7w fun _ y=>Q6 y.1.1)] (Q3 (d3P) lkn) Tryz.func224 rfl Tryz.call224 (d5M N) (fun _ y=>(y.1.1,y.2.1)) (fun _ _=>rfl) N (fun _ _=>by kernel_rfl) rfl
def a07(b:List d9):Option (List d9×List d9):=j8 (a0Q N b) fun a=>j8 (A9 a.2) fun c=>some (a.1,c)
abbrev e08:=sgM [.fnc 226 [0]] [.cells [.v τ13]] [.row 1] [.cells [.v τ13],.row 9 .str true] (List d9×List d9) fun z=>(((),()),(z.1,()),z.2,())
abbrev d1H:AF:=e08 fun _ y=>a07 N y.1.1
theorem d1J:Snd 182 (d1H N):=
 a4W h0 [(224,d5M N),(225,e0C fun _ y=>A9 y.1)] (Q3 (d1r N) (Q3 (d0J) lkn)) Tryz.func182 rfl Tryz.call182 (d1H N) (fun _ y=>(y.1.1,y.2.1)) (fun _ _=>rfl) N (fun _ _=>by kernel_rfl) rfl
def l8(_N:Nat)(a:List d9):Option τ20:=br ((a).isEmpty) (o9 (some ([]:List d9)) (br (Zf (([]:List d9).length+a.length) .str) (some ([]++a)) none)) (br (Zf (([]:List d9).length+a.length) .str) (some ([]++a)) none)
abbrev e3Z(f:SV [.v τ13]->BV []->Option τ20):AF:={ps:=[.v τ13],bs:=[],rs:=[.row 0],cs:=[.row 9 .str true],R:=List d9,out:=fun z=>(((),()),z,()),f:=f}
abbrev z9g:AF:=e3Z fun x _=>l8 N x.1
def e2i(_N:Nat):FuncId->Option Tmp->Option AF:=fun f _=>t7 [] f
theorem d6Y:a1f (e2i N):=fun _ _ _ h=>D7 h lkn
def z9h:Nat->Hint:=fun i=>
 match i with
 |_=>B8
abbrev z9E:Env:=mkE z9h (e2i N) (fun i=>match i with|2=>true|5=>true|_=>false) (fun _=>false)
theorem d6Z:Snd 185 (z9g N):=
 b0u (z9E N) (P8 z9h (e2i N) _ _ (d6Y N)) Tryz.func185 rfl Tryz.call185 (z9g N) (fun _ y=>y.1) (fun _ _=>rfl) N (fun _ _=>by kernel_rfl) rfl
def a0h(b:List d9):Option Bool:=j8 (U1 N b) fun c=>j8 (a07 N c) fun a=>j8 (l8 N a.2) fun e=>j8 (A5 e) fun g=>some (decide ((g.length:Int)<(a.2.length:Int)))
abbrev a5j:=sgM [.v τ13] [] [V3] [] (Bool) fun z=>((z,()),())
abbrev f7I:AF:=a5j fun x _=>a0h N x.1
def f7g:FuncId->Option Tmp->Option AF:=fun f _=>t7 [(182,d1H N),(183,z8g N),(184,e3M fun _ y=>A5 y.1),(185,z9g N)] f
theorem f8c:a1f (f7g N):=fun _ _ _ h=>D7 h (Q3 (d1J N) (Q3 (c60 N) (Q3 (d6k) (Q3 (d6Z N) lkn))))
def f9M:Nat->Hint:=fun i=>
 match i with
 |_=>B8
abbrev g0u:Env:=mkE f9M (f7g N) FF FF |>.jk (fun _=>none)
theorem e4U:Snd 145 (f7I N):=
 b0u (g0u N) (EnvOk.jk (P8 f9M (f7g N) _ _ (f8c N)) _) Tryz.func145 rfl Tryz.call145 (f7I N) (fun x _=>x.1) (fun _ _=>rfl) N (fun _ _=>by kernel_rfl) rfl
def H9(a:GStmt)(x1:Int):Option Int:=br (decide (x1>=30)) (some (2:Int)) (j8 (br (decide (a.kind<1)) (some true) (some (decide (a.kind>6)))) fun ai=>br (ai) (some (4:Int)) (o9 (j8 (K7 N (GStmt.mk a.kind a.name a.text a.params a.args (Ze a.expr) a.body a.els a.at_)) fun b=>k9 1 (j8 (R6 N (GStmt.mk a.kind a.name a.text a.params a.args (Ze a.expr) a.body a.els a.at_)) fun c=>br (b.1) (j8 (B4 N a.name) fun e=>br (e) (some (5:Int)) (j8 (br (b.2.2.1) (j8 (l7 N a.params ()) fun g=>some g) (some false)) fun l=>br (l) (some (5:Int)) (j8 (br (b.2.2.2.1) (j8 (l7 N c ()) fun m=>some m) (some false)) fun o=>br (o) (some (5:Int)) (j8 (br (!b.1) (some (!(a.name==[]))) (some false)) fun p=>br (p) (some (3:Int)) (j8 (br (!b.2.1) (some (!(a.text==[]))) (some false)) fun q=>br (q) (some (3:Int)) (j8 (br (!b.2.2.1) (some (decide ((a.params.length:Int)>0))) (some false)) fun r=>br (r) (some (3:Int)) (j8 (br (!b.2.2.2.1) (some (decide ((c.length:Int)>0))) (some false)) fun t=>br (t) (some (3:Int)) (j8 (br (!b.2.2.2.2.1) (j8 (J5 N (Ze a.expr)) fun u=>some (!u)) (some false)) fun v=>br (v) (some (3:Int)) (j8 (br (!b.2.2.2.2.2.1) (some (decide ((a.body.length:Int)>0))) (some false)) fun w=>br (w) (some (3:Int)) (j8 (br (!b.2.2.2.2.2.2) (some (decide ((a.els.length:Int)>0))) (some false)) fun B=>br (B) (some (3:Int)) (j8 (y8 N a.text) fun C=>br (!C) (some (3:Int)) (j8 (br (decide ((a.params.length:Int)>30)) (some true) (some (decide ((c.length:Int)>30)))) fun D=>br (D) (some (2:Int)) (j8 (j8 (a0h N a.params) fun E=>br (E) (some true) (j8 (a0h N c) fun H=>some H)) fun J=>br (J) (some (7:Int)) (some (0:Int))))))))))))))) (j8 (br (b.2.2.1) (j8 (l7 N a.params ()) fun K=>some K) (some false)) fun L=>br (L) (some (5:Int)) (j8 (br (b.2.2.2.1) (j8 (l7 N c ()) fun O=>some O) (some false)) fun Q=>br (Q) (some (5:Int)) (j8 (br (!b.1) (some (!(a.name==[]))) (some false)) fun R=>br (R) (some (3:Int)) (j8 (br (!b.2.1) (some (!(a.text==[]))) (some false)) fun T=>br (T) (some (3:Int)) (j8 (br (!b.2.2.1) (some (decide ((a.params.length:Int)>0))) (some false)) fun U=>br (U) (some (3:Int)) (j8 (br (!b.2.2.2.1) (some (decide ((c.length:Int)>0))) (some false)) fun V=>br (V) (some (3:Int)) (j8 (br (!b.2.2.2.2.1) (j8 (J5 N (Ze a.expr)) fun W=>some (!W)) (some false)) fun Y=>br (Y) (some (3:Int)) (j8 (br (!b.2.2.2.2.2.1) (some (decide ((a.body.length:Int)>0))) (some false)) fun aa=>br (aa) (some (3:Int)) (j8 (br (!b.2.2.2.2.2.2) (some (decide ((a.els.length:Int)>0))) (some false)) fun ab=>br (ab) (some (3:Int)) (j8 (y8 N a.text) fun ac=>br (!ac) (some (3:Int)) (j8 (br (decide ((a.params.length:Int)>30)) (some true) (some (decide ((c.length:Int)>30)))) fun ad=>br (ad) (some (2:Int)) (j8 (j8 (a0h N a.params) fun ae=>br (ae) (some true) (j8 (a0h N c) fun af=>some af)) fun ag=>br (ag) (some (7:Int)) (some (0:Int)))))))))))))))) (j8 (K7 N (GStmt.mk a.kind a.name a.text a.params a.args (Ze a.expr) a.body a.els a.at_)) fun b=>j8 (R6 N (GStmt.mk a.kind a.name a.text a.params a.args (Ze a.expr) a.body a.els a.at_)) fun c=>br (b.1) (j8 (B4 N a.name) fun e=>br (e) (some (5:Int)) (j8 (br (b.2.2.1) (j8 (l7 N a.params ()) fun g=>some g) (some false)) fun l=>br (l) (some (5:Int)) (j8 (br (b.2.2.2.1) (j8 (l7 N c ()) fun m=>some m) (some false)) fun o=>br (o) (some (5:Int)) (j8 (br (!b.1) (some (!(a.name==[]))) (some false)) fun p=>br (p) (some (3:Int)) (j8 (br (!b.2.1) (some (!(a.text==[]))) (some false)) fun q=>br (q) (some (3:Int)) (j8 (br (!b.2.2.1) (some (decide ((a.params.length:Int)>0))) (some false)) fun r=>br (r) (some (3:Int)) (j8 (br (!b.2.2.2.1) (some (decide ((c.length:Int)>0))) (some false)) fun t=>br (t) (some (3:Int)) (j8 (br (!b.2.2.2.2.1) (j8 (J5 N (Ze a.expr)) fun u=>some (!u)) (some false)) fun v=>br (v) (some (3:Int)) (j8 (br (!b.2.2.2.2.2.1) (some (decide ((a.body.length:Int)>0))) (some false)) fun w=>br (w) (some (3:Int)) (j8 (br (!b.2.2.2.2.2.2) (some (decide ((a.els.length:Int)>0))) (some false)) fun B=>br (B) (some (3:Int)) (j8 (y8 N a.text) fun C=>br (!C) (some (3:Int)) (j8 (br (decide ((a.params.length:Int)>30)) (some true) (some (decide ((c.length:Int)>30)))) fun D=>br (D) (some (2:Int)) (j8 (j8 (a0h N a.params) fun E=>br (E) (some true) (j8 (a0h N c) fun H=>some H)) fun J=>br (J) (some (7:Int)) (some (0:Int))))))))))))))) (j8 (br (b.2.2.1) (j8 (l7 N a.params ()) fun K=>some K) (some false)) fun L=>br (L) (some (5:Int)) (j8 (br (b.2.2.2.1) (j8 (l7 N c ()) fun O=>some O) (some false)) fun Q=>br (Q) (some (5:Int)) (j8 (br (!b.1) (some (!(a.name==[]))) (some false)) fun R=>br (R) (some (3:Int)) (j8 (br (!b.2.1) (some (!(a.text==[]))) (some false)) fun T=>br (T) (some (3:Int)) (j8 (br (!b.2.2.1) (some (decide ((a.params.length:Int)>0))) (some false)) fun U=>br (U) (some (3:Int)) (j8 (br (!b.2.2.2.1) (some (decide ((c.length:Int)>0))) (some false)) fun V=>br (V) (some (3:Int)) (j8 (br (!b.2.2.2.2.1) (j8 (J5 N (Ze a.expr)) fun W=>some (!W)) (some false)) fun Y=>br (Y) (some (3:Int)) (j8 (br (!b.2.2.2.2.2.1) (some (decide ((a.body.length:Int)>0))) (some false)) fun aa=>br (aa) (some (3:Int)) (j8 (br (!b.2.2.2.2.2.2) (some (decide ((a.els.length:Int)>0))) (some false)) fun ab=>br (ab) (some (3:Int)) (j8 (y8 N a.text) fun ac=>br (!ac) (some (3:Int)) (j8 (br (decide ((a.params.length:Int)>30)) (some true) (some (decide ((c.length:Int)>30)))) fun ad=>br (ad) (some (2:Int)) (j8 (j8 (a0h N a.params) fun ae=>br (ae) (some true) (j8 (a0h N c) fun af=>some af)) fun ag=>br (ag) (some (7:Int)) (some (0:Int)))))))))))))))))
abbrev c11:=sgM [.v τ17,V0] [] [V0] [] (Int) fun z=>((z,()),())
abbrev e9C:AF:=c11 fun x _=>H9 N x.1 x.2.1
def e8i:FuncId->Option Tmp->Option AF:=fun f _=>t7 [(84,f61 N),(140,e18 N),(141,d1S N),(142,z1g N),(143,f1i N),(144,f7z N),(145,f7I N)] f
theorem e8j:a1f (e8i N):=fun _ _ _ h=>D7 h (Q3 (f5Q N) (Q3 (d4d N) (Q3 (d1V N) (Q3 (d5B N) (Q3 (e8T N) (Q3 (e5p N) (Q3 (e4U N) lkn)))))))
def f1c:Nat->Hint:=fun i=>
 match i with
 |100005=>⟨[1002],[],[],[],[],[]⟩
 |_=>B8
abbrev f1U:Env:=mkE f1c (e8i N) FF FF |>.jk (fun i=>match i with|3=>some 17|8=>some 22|9=>some 22|11=>some 46|12=>some 46|13=>some 46|14=>some 46|15=>some 46|16=>some 46|17=>some 46|21=>some 112|23=>some 122|_=>none)
theorem c13:Snd 86 (e9C N):=
 b0u (f1U N) (EnvOk.jk (P8 f1c (e8i N) _ _ (e8j N)) _) Tryz.func86 rfl Tryz.call86 (e9C N) (fun x _=>x.1) (fun _ _=>rfl) N (fun _ _=>by kernel_rfl) rfl
def S4(a:d9):Option Bool:=j8 (y8 N a) fun b=>some (!b)
abbrev e0E:=sgM [V1] [] [V3] [] (Bool) fun z=>((z,()),())
abbrev d8D:AF:=e0E fun x _=>S4 N x.1
theorem d0N:Snd 186 (d8D N):=
 a4W h0 [(144,f7z N)] (Q3 (e5p N) lkn) Tryz.func186 rfl Tryz.call186 (d8D N) (fun x _=>x.1) (fun _ _=>rfl) N (fun _ _=>by kernel_rfl) rfl
def b5C(b:List d9)(c:Int)(k0:Option Int)(self:ρ21)(a:Int):Option Int:=br (decide (a<c)) (j8 (m7 b a) fun e=>j8 (S4 N e) fun g=>br (g) (some a) (self (IntKind.i64.wrap (a+1)))) (k0)
def c75(N:Nat)(a:List d9)(b:Int)(k0:Option Int):Nat->Int->Option Int|0,_=>none|n+1,c=>b5C N a b k0 (c75 N a b k0 n) c
def E6(a:List d9)(_b:Unit):Option Int:=c75 N a (a.length:Int) (some (-1:Int)) N 0
abbrev e3w:=sgM [.v τ13,.v (.clo 186 .un)] [] [V0] [] (Int) fun z=>((z,()),())
abbrev z2g:AF:=e3w fun x _=>E6 N x.1 x.2.1
abbrev d8P:SV [V0]->BV []->Int:=fun x _=>x.1
def e0W:FuncId->Option Tmp->Option AF:=fun f _=>t7 [(186,d8D N)] f
theorem d5I:a1f (e0W N):=fun _ _ _ h=>D7 h (Q3 (d0N N) lkn)
def z2h:Nat->Hint:=fun i=>
 match i with
 |0=>⟨[],[0,1,7,8],[],[],[],[]⟩
 |_=>B8
abbrev z2E:Env:=mkE z2h (e0W N) FF FF
abbrev z2R:=P5 (z2E N) Tryz.f181 (z2g N) d8P
abbrev b3A:List (Nat×Sl):=[(0,.v τ13),(1,.v (.clo 186 .un)),(7,V0),(8,V0)]
abbrev b3z:List (Nat×Sb):=[]
def b9L(a:List d9)(b:Unit)(c e:Int):St:=⟨19,[(0,.v τ13 a),(1,.v (.clo 186 .un) b),(7,.v τ2 c),(8,.v τ2 e)],[]⟩
def b0L(_a:List d9)(_b:Unit)(_c:Int):St:=⟨19,[],[]⟩
def d8M(a:List d9)(c:Unit)(b e:Int)(k:Ex->St->Option Int):Option Int:=c75 N a b (k (.exit 0) (b0L a c b)) N e
abbrev d1m:FV b3A->HV b3z->(Ex->St->Option Int)->Option Int:=fun x _ k=>d8M N x.1 x.2.1 x.2.2.1 x.2.2.2.1 k
def c3Y:Nat->Code->St->(Ex->St->Option Int)->Option Int:=fun i c=>
 match i with
 |0=>(LPc 19 b3A b3z (d1m N) (fun st k=>iter (z2h 0) (q7 (z2E N) N c 0) N st k))
 |i=>fun st k=>iter (z2h i) (q7 (z2E N) N c i) N st k
theorem c76(a:List d9)(e:Unit)(b:Int)(KX:Nat->St->Option Int)(I:St->Option Int)(c:Int):
  s4 (c3Y N) (z2E N) b3e 0 (b9L a e b c) (I2 (z2h 0) I KX (z2R N))=b5C N a b (KX 0 (b0L a e b)) (fun c=>I (b9L a e b c)) c:=by kernel_rfl
theorem d5H:∀x y k,(∀st,k .ret st=(z2R N) st)->iter (z2h 0) (q7 (z2E N) N b3e 0) N ⟨19,unF b3A x,unH b3z y⟩ k=d1m N x y k:=fun x _ k hk=>
 s5 (S:=(Int)×Unit) (z2h 0) _ (s4 (c3Y N) (z2E N) b3e 0) (z2R N) (x9 _ _ N _ b3e 0 (show LoopsOk (c3Y N) (z2E N) N (z2R N) []from trivial)) (fun s=>b9L x.1 x.2.1 x.2.2.1 s.1) k hk
  (fun self s=>b5C N x.1 x.2.2.1 (k (.exit 0) (b0L x.1 x.2.1 x.2.2.1)) (fun a=>self (a,())) s.1) (fun n s=>c75 N x.1 x.2.2.1 (k (.exit 0) (b0L x.1 x.2.1 x.2.2.1)) n s.1) (fun _=>rfl) (fun _ _=>rfl)
  (fun I s=>c76 N x.1 x.2.1 x.2.2.1 (fun j=>k (.exit j)) I s.1) N (x.2.2.2.1,())
theorem e0Y:a1g (c3Y N) (z2E N) N (z2R N) 0 b3e:=fun st k hk=>J8 19 b3A b3z _ _ (z2R N) (d5H N) _ st k hk (rfl)
theorem d8O(x:SV [.v τ13,.v (.clo 186 .un)])(y:BV []):a0f (z2E N) Tryz.f181 (z2g N) d8P (c3Y N) x y=E6 N x.1 x.2.1:=by kernel_rfl
theorem d5J:Snd 181 (z2g N):=
 b2q (d5I N) Tryz.func181 rfl Tryz.call181 (z2g N) d8P (fun _ _=>rfl) N (c3Y N) (show LoopsOk (c3Y N) (z2E N) N (z2R N) [(0,b3e)]from⟨e0Y N,trivial⟩) (d8O N)
def l9(a:List d9)(b:Unit):Option Bool:=j8 (E6 N a b) fun c=>some (decide (c>=0))
abbrev e3j:=sgM [.v τ13,.v (.clo 186 .un)] [] [V3] [] (Bool) fun z=>((z,()),())
abbrev z0g:AF:=e3j fun x _=>l9 N x.1 x.2.1
theorem d5w:Snd 142 (z0g N):=
 a4W h0 [(181,z2g N)] (Q3 (d5J N) lkn) Tryz.func142 rfl Tryz.call142 (z0g N) (fun x _=>x.1) (fun _ _=>rfl) N (fun _ _=>by kernel_rfl) rfl
end
end Go.Proofs.YtolpmfhiegpohaaGreatDoor
