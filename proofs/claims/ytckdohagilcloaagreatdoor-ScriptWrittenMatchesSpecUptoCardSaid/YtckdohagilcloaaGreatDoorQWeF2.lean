/- % -/
import Derived.Test.YtckdohagilcloaaGreatDoorQWeT
namespace Go.Proofs.YtckdohagilcloaaGreatDoor
set_option maxRecDepth 100000
set_option linter.unusedVariables false
open Go Go.RowKit
section
abbrev FF:Nat->Bool:=fun _=>false
abbrev o5:Hint:=⟨[],[],[],[],[],[]⟩
abbrev H5(fn:FuncId->Option Tmp->Option AF):Prop:=∀f q F,fn f q=some F->Sound Tryz.prog GW x6 f F
abbrev I6:FuncId->AF->Prop:=Sound Tryz.prog GW x6
theorem a0l{E:Env}(hE:EnvOk Tryz.prog GW x6 E){f:FuncId}{g:Func}(hf:Tryz.prog.funcs[f]? = some g)
  (hcall:∀(args:Array Value) (w:World),(callFunc f args).run Tryz.prog w = .ok (.enter f args) w) (F:AF) (pk:SV F.rs->BV F.cs->F.R) (N:Nat)
  (LP:Nat->Code->St->(Ex->St->Option F.R)->Option F.R) (hl:LoopsOk LP E N (B4 E g F pk) (loops (m8 g) 0))
  (core:∀x y,b53 E g F pk LP x y=F.f x y:=by intro _ _;kernel_rfl) (hpk:∀x y,F.out (pk x y)=(x,y):=by exact fun _ _=>rfl) (hb:g.body=some (m8 g):=by exact rfl) (hkp:a4F F.bs F.cs=false:=by rfl):I6 f F:=
 b3M hE hf hb hcall F pk hpk N (fun x y _ e=>((b2h E N g F pk LP hl x y).trans (core x y)).trans e) hkp
theorem X0{h:Nat->Hint}{fn:FuncId->Option Tmp->Option AF}(ok:H5 fn){f:FuncId}{g:Func}(hf:Tryz.prog.funcs[f]? = some g)
  (hcall:∀(args:Array Value) (w:World),(callFunc f args).run Tryz.prog w = .ok (.enter f args) w) (F:AF) (pk:SV F.rs->BV F.cs->F.R) (N:Nat)
  (LP:Nat->Code->St->(Ex->St->Option F.R)->Option F.R) (hl:LoopsOk LP (M5 h fn FF FF) N (B4 (M5 h fn FF FF) g F pk) (loops (m8 g) 0))
  (core:∀x y,b53 (M5 h fn FF FF) g F pk LP x y=F.f x y:=by intro _ _;kernel_rfl) (hpk:∀x y,F.out (pk x y)=(x,y):=by exact fun _ _=>rfl) (hb:g.body=some (m8 g):=by exact rfl) (hkp:a4F F.bs F.cs=false:=by rfl):I6 f F:=
 a0l (t6 h fn _ _ ok) hf hcall F pk N LP hl core hpk hb hkp
end
section
def P0:List (Nat×AF)->Nat->Option AF | [],_=>none|(a,F) :: l,f=>bif Nat.beq f a then some F else P0 l f
def c9i:List (Nat×AF)->Prop | []=>True|(a,F) :: l=>I6 a F/\c9i l
theorem u4{a:Nat}{F:AF}{l:List (Nat×AF)}(h:I6 a F)(t:c9i l):c9i ((a,F) :: l):=⟨h,t⟩
theorem F1:c9i []:=trivial
theorem r9:∀{l:List (Nat×AF)} {f:Nat} {F:AF},P0 l f=some F->c9i l->I6 f F
 |[],_,_,h,_=>by cases h
 |(a,G) :: l,f,F,h,t=>by
  unfold P0 at h;cases hb:Nat.beq f a with
  |true=>
   rw[hb]at h;cases h;have:=Nat.eq_of_beq_eq_true hb;subst this;exact t.1
  |false=>
   rw[hb]at h;exact r9 h t.2
def h0:Nat->Hint:=fun _=>o5
abbrev B2{R:Type}[BothC R](LP:Nat->Code->St->(Ex->St->Option R)->Option R)(E:Env)(N:Nat)(RES:St->Option R)(i:Nat)(c:Code):Prop:=∀st k,(∀st,k .ret st=RES st)->LP i c st k=iter (E.hint i) (Q0 E N c i) N st k
def LPn{R:Type}:Nat->Code->St->(Ex->St->Option R)->Option R:=fun _ _ _ _=>none
theorem T5(E:Env)(hE:EnvOk Tryz.prog GW x6 E){f:FuncId}{g:Func}(hf:Tryz.prog.funcs[f]? = some g)
  (hcall:∀(args:Array Value) (w:World),(callFunc f args).run Tryz.prog w = .ok (.enter f args) w) (F:AF) (pk:SV F.rs->BV F.cs->F.R) (N:Nat)
  (core:∀x y,b53 E g F pk LPn x y=F.f x y:=by intro _ _;kernel_rfl) (hl:loops (m8 g) 0=[]:=by exact rfl) (hpk:∀x y,F.out (pk x y)=(x,y):=by exact fun _ _=>rfl) (hb:g.body=some (m8 g):=by exact rfl) (hkp:a4F F.bs F.cs=false:=by rfl):I6 f F:=
 a0l hE hf hcall F pk N LPn (by rw[hl];exact trivial) core hpk hb hkp
theorem N9(h:Nat->Hint){l:List (Nat×AF)}(ok:c9i l){f:FuncId}{g:Func}(hf:Tryz.prog.funcs[f]? = some g)
  (hcall:∀(args:Array Value) (w:World),(callFunc f args).run Tryz.prog w = .ok (.enter f args) w) (F:AF) (pk:SV F.rs->BV F.cs->F.R) (N:Nat)
  (core:∀x y,b53 (M5 h (fun f _=>P0 l f) FF FF) g F pk LPn x y=F.f x y:=by intro _ _;kernel_rfl) (hl:loops (m8 g) 0=[]:=by exact rfl) (hpk:∀x y,F.out (pk x y)=(x,y):=by exact fun _ _=>rfl) (hb:g.body=some (m8 g):=by exact rfl) (hkp:a4F F.bs F.cs=false:=by rfl):I6 f F:=
 X0 (fun _ _ _ h=>r9 h ok) hf hcall F pk N LPn (by rw[hl];exact trivial) core hpk hb hkp
theorem U6{R:Type}[BothC R]{LP:Nat->Code->St->(Ex->St->Option R)->Option R}{E:Env}{N:Nat}{K:St->Option R}:LoopsOk LP E N K []:=trivial
theorem P5{R:Type}[BothC R]{LP:Nat->Code->St->(Ex->St->Option R)->Option R}{E:Env}{N:Nat}{K:St->Option R}{i:Nat}{c:Code}{l:List (Nat×Code)}(h:B2 LP E N K i c)(t:LoopsOk LP E N K l):LoopsOk LP E N K ((i,c) :: l):=⟨h,t⟩
end
noncomputable section
noncomputable section
variable(N:Nat)
def W6(_N:Nat)(a:List τ1)(b c:Int):Option (Int×List τ1×Int×Int):=br ((a.length:Int)==0) (some (b,a,b,c)) (k8 (n8 a 0) fun e=>some (e.2.2.2,a,b,c))
abbrev e6R:=E3 [.box 0 0] [.cells [V2,V0,V0]] [V0] [.cells [V2,V0,V0]] (Int×List τ1×Int×Int) fun z=>((z.1,()),(z.2.1,z.2.2.1,z.2.2.2,()),())
abbrev c69:AF:=e6R fun _ y=>W6 N y.1.1 y.1.2.1 y.1.2.2.1
theorem b63:I6 136 (c69 N):=
 N9 h0 F1 Tryz.func136 Tryz.call136 (c69 N) (fun x y=>(x.1,y.1.1,y.1.2.1,y.1.2.2.1)) N
def R9(_N:Nat)(e g:Int)(a:List τ1)(b c:Int):Option τ35:=br (decide (g>=30)) (br (decide (c<0)) (some (a,b,e)) (some (a,b,c))) (some (a,b,c))
abbrev f4E(f:SV [.box 0 0,V0,V0]->BV [.cells [V2,V0,V0]]->Option τ35):AF:={ps:=[.box 0 0,V0,V0],bs:=[.cells [V2,V0,V0]],rs:=[],cs:=[.cells [V2,V0,V0]],R:=List τ1×Int×Int,out:=fun z=>((),(z.1,z.2.1,z.2.2,()),()),f:=f}
abbrev e3g:AF:=f4E fun x y=>R9 N x.2.1 x.2.2.1 y.1.1 y.1.2.1 y.1.2.2.1
theorem c33:I6 137 (e3g N):=
 N9 h0 F1 Tryz.func137 Tryz.call137 (e3g N) (fun _ y=>(y.1.1,y.1.2.1,y.1.2.2.1)) N
def a0K(_N:Nat)(e:Int)(g:d3)(a:List τ1)(b c:Int):Option τ46:=br (decide ((a.length:Int)>0)) (k8 (n8 a 0) fun l=>br (l.1==e) (k8 (n8 a 0) fun m=>some (m.2.1==g,a,b,c)) (some (false,a,b,c))) (some (false,a,b,c))
abbrev e6S(f:SV [.box 0 0,V0,V1]->BV [.cells [V2,V0,V0]]->Option τ46):AF:={ps:=[.box 0 0,V0,V1],bs:=[.cells [V2,V0,V0]],rs:=[V3],cs:=[.cells [V2,V0,V0]],R:=Bool×List τ1×Int×Int,out:=fun z=>((z.1,()),(z.2.1,z.2.2.1,z.2.2.2,()),()),f:=f}
abbrev e3T:AF:=e6S fun x y=>a0K N x.2.1 x.2.2.1 y.1.1 y.1.2.1 y.1.2.2.1
theorem d0l:I6 199 (e3T N):=
 N9 h0 F1 Tryz.func199 Tryz.call199 (e3T N) (fun x y=>(x.1,y.1.1,y.1.2.1,y.1.2.2.1)) N
def n3(b:Int)(c:d3)(e:List τ1)(g l:Int):Option τ46:=k8 (a0K N b c e g l) fun a=>br (!a.1) (some (false,a.2)) (k8 (slc a.2.1 1 (a.2.1.length:Int)) fun m=>some (true,m,a.2.2))
abbrev f4H(f:SV [.box 0 0,V0,V1]->BV [.cells [V2,V0,V0]]->Option τ46):AF:={ps:=[.box 0 0,V0,V1],bs:=[.cells [V2,V0,V0]],rs:=[V3],cs:=[.cells [V2,V0,V0]],R:=Bool×List τ1×Int×Int,out:=fun z=>((z.1,()),(z.2.1,z.2.2.1,z.2.2.2,()),()),f:=f}
abbrev b5C:AF:=f4H fun x y=>n3 N x.2.1 x.2.2.1 y.1.1 y.1.2.1 y.1.2.2.1
theorem a04:I6 138 (b5C N):=
 N9 h0 (u4 (d0l N) F1) Tryz.func138 Tryz.call138 (b5C N) (fun x y=>(x.1,y.1.1,y.1.2.1,y.1.2.2.1)) N
def J8(_N:Nat)(a:UInt8):Option Bool:=br (decide (a>=97)) (some (decide (a<=122))) (some false)
abbrev e7j:=E3 [.v .u8] [] [V3] [] (Bool) fun z=>((z,()),())
abbrev d5z:AF:=e7j fun x _=>J8 N x.1
theorem b0Z:I6 96 (d5z N):=
 N9 h0 F1 Tryz.func96 Tryz.call96 (d5z N) (fun x _=>x.1) N
def J7(_N:Nat)(a:UInt8):Option Bool:=br (decide (a>=48)) (some (decide (a<=57))) (some false)
abbrev e7i:=E3 [.v .u8] [] [V3] [] (Bool) fun z=>((z,()),())
abbrev c7j:AF:=e7i fun x _=>J7 N x.1
theorem a7G:I6 97 (c7j N):=
 N9 h0 F1 Tryz.func97 Tryz.call97 (c7j N) (fun x _=>x.1) N
def a1O(_N:Nat):Option τ24:=some [[109,97,99,114,111],[102,111,114],[105,110],[105,102],[101,108,115,101],[117,115,101],[102,105,108,101,115],[99,104,111,111,115,101]]
abbrev e79(f:SV []->BV []->Option τ24):AF:={ps:=[],bs:=[],rs:=[.row 0],cs:=[.row 9 .str false],R:=List d3,out:=fun z=>(((),()),z,()),f:=f}
abbrev d6E:AF:=e79 fun _ _=>a1O N
theorem d13:I6 99 (d6E N):=
 N9 h0 F1 Tryz.func99 Tryz.call99 (d6E N) (fun _ y=>y.1) N
def c0c(_N:Nat)(b:List d3)(c:d3)(e:Int)(k0:τ39)(self:ρ34)(a:Int):Option Int:=br (decide (a<e)) (k8 (n8 b a) fun g=>br (c==g) (some a) (self (IntKind.i64.wrap (a+1)))) (k0)
def d66(N:Nat)(a:List d3)(b:d3)(c:Int)(k0:τ39):Nat->Int->Option Int|0,_=>none|n+1,e=>c0c N a b c k0 (d66 N a b c k0 n) e
def K3(a:List d3)(b:d3):Option Int:=d66 N a b (a.length:Int) (some (-1:Int)) N 0
abbrev f2g:=E3 [V4,V1] [] [V0] [] (Int) fun z=>((z,()),())
abbrev e8u:AF:=f2g fun x _=>K3 N x.1 x.2.1
abbrev e4u:SV [V0]->BV []->Int:=fun x _=>x.1
def e4t(_N:Nat):FuncId->Option Tmp->Option AF:=fun f _=>P0 [] f
theorem d69:H5 (e4t N):=fun _ _ _ h=>r9 h F1
def f6C:Nat->Hint:=fun i=>
 match i with
 |0=>⟨[],[0,1,7,8],[],[],[],[]⟩
 |_=>o5
abbrev e2d:Env:=M5 f6C (e4t N) FF FF
noncomputable abbrev f2f:Code:=P9 (m8 Tryz.f173) [true,false,true,false,false]
abbrev f6B:=B4 (e2d N) Tryz.f173 (e8u N) e4u
abbrev d68:List (Nat×Sl):=[(0,V4),(1,V1),(7,V0),(8,V0)]
abbrev d67:List (Nat×Sb):=[]
def c72:T9 (Int) d68 d67:=fun K n x y=>d66 N x.1 x.2.1 x.2.2.1 (K 0 ⟨19,[],[]⟩) n x.2.2.2.1
def e4s:Nat->Code->St->(Ex->St->Option Int)->Option Int:=fun i c=>
 match i with
 |0=>U4 (e2d N) N 19 (c72 N) 0 c
 |i=>LpD (e2d N) N i c
theorem e8v:B2 (e4s N) (e2d N) N (f6B N) 0 f2f:=
 o0 (c72 N) (fun K f x y=>c0c N x.1 x.2.1 x.2.2.1 (K 0 ⟨19,[],[]⟩) (fun a=>f (x.1,x.2.1,x.2.2.1,a,x.2.2.2.2) y) x.2.2.2.1)
theorem d7a:I6 173 (e8u N):=
 X0 (d69 N) Tryz.func173 Tryz.call173 (e8u N) e4u N (e4s N) (P5 (e8v N) U6)
def s4(a:List d3)(b:d3):Option Bool:=k8 (K3 N a b) fun c=>some (decide (c>=0))
abbrev f7R:=E3 [V4,V1] [] [V3] [] (Bool) fun z=>((z,()),())
abbrev z9g:AF:=f7R fun x _=>s4 N x.1 x.2.1
theorem b2D:I6 98 (z9g N):=
 N9 h0 (u4 (d7a N) F1) Tryz.func98 Tryz.call98 (z9g N) (fun x _=>x.1) N
def b2u(b:d3)(c:Int)(k0:Option Bool)(self:ρ33)(a:Int):Option Bool:=br (decide (a<c)) (k8 (n8 b a) fun e=>k8 (J8 N e) fun g=>br (!g) (k8 (n8 b a) fun l=>k8 (J7 N l) fun m=>br (!m) (k8 (n8 b a) fun o=>br (o !=95) (some false) (self (IntKind.i64.wrap (a+1)))) (self (IntKind.i64.wrap (a+1)))) (self (IntKind.i64.wrap (a+1)))) (k0)
def b9U(N:Nat)(a:d3)(b:Int)(k0:Option Bool):Nat->Int->Option Bool|0,_=>none|n+1,c=>b2u N a b k0 (b9U N a b k0 n) c
def Q6(a:d3):Option Bool:=br (decide ((a.length:Int)<1)) (some false) (br (decide ((a.length:Int)>40)) (some false) (k8 (n8 a 0) fun b=>k8 (J8 N b) fun c=>br (!c) (some false) (b9U N a (a.length:Int) (k8 (a1O N) fun e=>k8 (s4 N e a) fun g=>some (!g)) N 0)))
abbrev e7t:=E3 [V1] [] [V3] [] (Bool) fun z=>((z,()),())
abbrev c2P:AF:=e7t fun x _=>Q6 N x.1
abbrev d5P:SV [V3]->BV []->Bool:=fun x _=>x.1
def d5O:FuncId->Option Tmp->Option AF:=fun f _=>P0 [(96,d5z N),(97,c7j N),(98,z9g N),(99,d6E N)] f
theorem d06:H5 (d5O N):=fun _ _ _ h=>r9 h (u4 (b0Z N) (u4 (a7G N) (u4 (b2D N) (u4 (d13 N) F1))))
def f1u:Nat->Hint:=fun i=>
 match i with
 |0=>⟨[],[0,19,20],[],[0],[],[]⟩
 |_=>o5
abbrev c7r:Env:=M5 f1u (d5O N) FF FF
noncomputable abbrev e7s:Code:=P9 (m8 Tryz.f51) [true,true,false,true,false,false]
abbrev f1t:=B4 (c7r N) Tryz.f51 (c2P N) d5P
abbrev b7q:List (Nat×Sl):=[(0,V1),(19,V0),(20,V0)]
abbrev d05:List (Nat×Sb):=[]
def b4I(x:FV b7q):St:=⟨46,[(0,.v .str x.1)],[]⟩
def c2O:T9 (Bool) b7q d05:=fun K n x y=>b9U N x.1 x.2.1 (K 0 (b4I x)) n x.2.2.1
def d5N:Nat->Code->St->(Ex->St->Option Bool)->Option Bool:=fun i c=>
 match i with
 |0=>U4 (c7r N) N 46 (c2O N) 0 c
 |i=>LpD (c7r N) N i c
theorem e1L:B2 (d5N N) (c7r N) N (f1t N) 0 e7s:=
 o0 (c2O N) (fun K f x y=>b2u N x.1 x.2.1 (K 0 (b4I x)) (fun a=>f (x.1,x.2.1,a,x.2.2.2) y) x.2.2.1)
theorem a7I:I6 51 (c2P N):=
 X0 (d06 N) Tryz.func51 Tryz.call51 (c2P N) d5P N (d5N N) (P5 (e1L N) U6)
def E0(a:List τ1)(b c:Int):Option τ47:=br ((a.length:Int)==0) none (k8 (n8 a 0) fun e=>br (e.1 !=1) none (k8 (n8 a 0) fun g=>k8 (Q6 N g.2.1) fun l=>br (!l) none (k8 (n8 a 0) fun m=>k8 (slc a 1 (a.length:Int)) fun o=>some (m.2.1,o,b,c))))
abbrev f4F(f:SV [.box 0 0]->BV [.cells [V2,V0,V0]]->Option τ47):AF:={ps:=[.box 0 0],bs:=[.cells [V2,V0,V0]],rs:=[V1],cs:=[.cells [V2,V0,V0]],R:=d3×List τ1×Int×Int,out:=fun z=>((z.1,()),(z.2.1,z.2.2.1,z.2.2.2,()),()),f:=f}
abbrev e3h:AF:=f4F fun _ y=>E0 N y.1.1 y.1.2.1 y.1.2.2.1
theorem a95:I6 139 (e3h N):=
 N9 h0 (u4 (a7I N) F1) Tryz.func139 Tryz.call139 (e3h N) (fun x y=>(x.1,y.1.1,y.1.2.1,y.1.2.2.1)) N
def l8(b:d3)(c:List τ1)(e g:Int):Option τ35:=k8 (n3 N 4 b c e g) fun a=>br (!a.1) none (some a.2)
abbrev f4G(f:SV [.box 0 0,V1]->BV [.cells [V2,V0,V0]]->Option τ35):AF:={ps:=[.box 0 0,V1],bs:=[.cells [V2,V0,V0]],rs:=[],cs:=[.cells [V2,V0,V0]],R:=List τ1×Int×Int,out:=fun z=>((),(z.1,z.2.1,z.2.2,()),()),f:=f}
abbrev b57:AF:=f4G fun x y=>l8 N x.2.1 y.1.1 y.1.2.1 y.1.2.2.1
theorem a03:I6 140 (b57 N):=
 N9 h0 (u4 (a04 N) F1) Tryz.func140 Tryz.call140 (b57 N) (fun _ y=>(y.1.1,y.1.2.1,y.1.2.2.1)) N
def a4b(b:d3)(c:Bool)(e:List τ1)(g l m:Int)(o p:d3)(q:Int)(r:d3)(t u:Int):Option τ38:=br (c) (k8 (n3 N 4 b e g l) fun a=>br (a.1) (some (a.2.1,a.2.2.1,a.2.2.2,m,o,p,q,r,t,u)) none) none
abbrev e6B(f:SV [.box 0 0,V1,V3,.fnc 142 [1,2]]->BV [.cells [V2,V0,V0],.cells [V0,V1,V1,.nilS,.nilS,V0,V1,V0,.nilS,.nilS,.nilS,.nilS,V0],.cells [.box 0 0]]->Option τ38):AF:={ps:=[.box 0 0,V1,V3,.fnc 142 [1,2]],bs:=[.cells [V2,V0,V0],.cells [V0,V1,V1,.nilS,.nilS,V0,V1,V0,.nilS,.nilS,.nilS,.nilS,V0],.cells [.box 0 0]],rs:=[],cs:=[.cells [V2,V0,V0],.cells [V0,V1,V1,.nilS,.nilS,V0,V1,V0,.nilS,.nilS,.nilS,.nilS,V0],.cells [.box 0 0]],R:=List τ1×Int×Int×Int×d3×d3×Int×d3×Int×Int,out:=fun z=>((),(z.1,z.2.1,z.2.2.1,()),(z.2.2.2.1,z.2.2.2.2.1,z.2.2.2.2.2.1,(),(),z.2.2.2.2.2.2.1,z.2.2.2.2.2.2.2.1,z.2.2.2.2.2.2.2.2.1,(),(),(),(),z.2.2.2.2.2.2.2.2.2,()),((),()),()),f:=f}
abbrev c63:AF:=e6B fun x y=>let z:=y.2.1.2.2.2.2.2;a4b N x.2.1 x.2.2.1 y.1.1 y.1.2.1 y.1.2.2.1 y.2.1.1 y.2.1.2.1 y.2.1.2.2.1 z.1 z.2.1 z.2.2.1 z.2.2.2.2.2.2.2.1
abbrev d4Y:SV []->BV [.cells [V2,V0,V0],.cells [V0,V1,V1,.nilS,.nilS,V0,V1,V0,.nilS,.nilS,.nilS,.nilS,V0],.cells [.box 0 0]]->τ38:=fun _ y=>let z:=y.2.1.2.2.2.2.2;(y.1.1,y.1.2.1,y.1.2.2.1,y.2.1.1,y.2.1.2.1,y.2.1.2.2.1,z.1,z.2.1,z.2.2.1,z.2.2.2.2.2.2.2.1)
def d4X:FuncId->Option Tmp->Option AF:=fun f _=>P0 [(138,b5C N)] f
theorem c9X:H5 (d4X N):=fun _ _ _ h=>r9 h (u4 (a04 N) F1)
def f1c:Nat->Hint:=fun i=>
 match i with
 |_=>o5
abbrev d4V:Env:=M5 f1c (d4X N) FF FF
noncomputable abbrev b9J:Code:=P9 (m8 Tryz.f141) [true,true,false,false,false]
abbrev f1b:=B4 (d4V N) Tryz.f141 (c63 N) d4Y
def d4W:Nat->Code->St->(Ex->St->Option τ38)->Option τ38:=fun i c=>
 match i with
 |i=>LpD (d4V N) N i c
theorem e1o:B2 (d4W N) (d4V N) N (f1b N) 0 b9J:=fun _ _ _=>rfl
theorem c9Y:I6 141 (c63 N):=
 X0 (c9X N) Tryz.func141 Tryz.call141 (c63 N) d4Y N (d4W N) (P5 (e1o N) U6)
def B1(_N:Nat)(a:List τ1)(b c:Int):Option τ47:=br ((a.length:Int)==0) none (k8 (n8 a 0) fun e=>br (e.1 !=2) none (k8 (n8 a 0) fun g=>k8 (slc a 1 (a.length:Int)) fun l=>some (g.2.1,l,b,c)))
abbrev f4I(f:SV [.box 0 0]->BV [.cells [V2,V0,V0]]->Option τ47):AF:={ps:=[.box 0 0],bs:=[.cells [V2,V0,V0]],rs:=[V1],cs:=[.cells [V2,V0,V0]],R:=d3×List τ1×Int×Int,out:=fun z=>((z.1,()),(z.2.1,z.2.2.1,z.2.2.2,()),()),f:=f}
abbrev d2H:AF:=f4I fun _ y=>B1 N y.1.1 y.1.2.1 y.1.2.2.1
theorem a96:I6 146 (d2H N):=
 N9 h0 F1 Tryz.func146 Tryz.call146 (d2H N) (fun x y=>(x.1,y.1.1,y.1.2.1,y.1.2.2.1)) N
abbrev W9:=E3 [.box 0 0] [.cells [V2,V0,V0]] [.v (.rc .part)] [.cells [V2,V0,V0]] (GPart×List τ1×Int×Int) fun z=>((z.1,()),(z.2.1,z.2.2.1,z.2.2.2,()),())
end
end
noncomputable section
noncomputable section
variable(N:Nat)
def s7(b:Int)(c:d3)(e g:Int)(a:GPart×List τ1×Int×Int):Option (Int×d3×Int×Int×List τ1×Int×Int×List GPart):=br (Zf [Zo].length (.rc .part)) (br (decide (0<=(0: Int)/\0<([Zo].length:Int))) (o3 1 (k8 (n8 [Zo] 0) fun _=>some (b,c,e,g,a.2.1,a.2.2.1,a.2.2.2,a3F [Zo] 0 a.1))) none) none
def H0(_N:Nat)(a7:V8)(b:Int)(c:d3)(e g:Int)(l:List τ1)(m o:Int):Option (Int×d3×Int×Int×List τ1×Int×Int×List GPart):=q7 (q7 (q7 (k8 (a7 l m o) fun a=>o3 1 (s7 b c e g a)) (o3 1 (o3 1 (k8 (a7 l m o) fun a=>s7 b c e g a)))) (o3 1 (q7 (o3 1 (k8 (a7 l m o) fun a=>s7 b c e g a)) (k8 (a7 l m o) fun a=>s7 b c e g a)))) (q7 (q7 (q7 (k8 (a7 l m o) fun a=>o3 1 (s7 b c e g a)) (o3 1 (o3 1 (k8 (a7 l m o) fun a=>s7 b c e g a)))) (q7 (k8 (a7 l m o) fun a=>q7 (o3 1 (s7 b c e g a)) (s7 b c e g a)) (q7 (o3 1 (k8 (a7 l m o) fun a=>s7 b c e g a)) (k8 (a7 l m o) fun a=>s7 b c e g a)))) (o3 1 (q7 (o3 1 (k8 (a7 l m o) fun a=>s7 b c e g a)) (k8 (a7 l m o) fun a=>s7 b c e g a))))
abbrev f4a:=E3 [.box 0 0,.box 1 0] [.cells [V0,V1,V0,.nilS,.nilS,V0,.nilS],.cells [.box 2 0],.cells [V2,V0,V0]] [] [.cells [V0,V1,V0,.nilS,.nilS,V0,.row 3],.cells [.box 2 0],.cells [V2,V0,V0],.row 273 (.rc .part) true] (Int×d3×Int×Int×List τ1×Int×Int×List GPart) fun z=>((),(z.1,z.2.1,z.2.2.1,(),(),z.2.2.2.1,(),()),((),()),(z.2.2.2.2.1,z.2.2.2.2.2.1,z.2.2.2.2.2.2.1,()),z.2.2.2.2.2.2.2,())
abbrev d9g(a7:V8):AF:=f4a fun _ y=>H0 N a7 y.1.1 y.1.2.1 y.1.2.2.1 y.1.2.2.2.2.2.1 y.2.2.1.1 y.2.2.1.2.1 y.2.2.1.2.2.1
def d9e(_N:Nat)(a7:V8):FuncId->Option Tmp->Option AF:=fun f _=>P0 [(202,W9 fun _ y=>a7 y.1.1 y.1.2.1 y.1.2.2.1)] f
theorem d9f(a7:V8)(j8:Sound Tryz.prog GW x6 202 (W9 fun x y=>a7 y.1.1 y.1.2.1 y.1.2.2.1)):∀f q F,d9e N a7 f q=some F->Sound Tryz.prog GW x6 f F:=fun _ _ _ h=>r9 h (u4 (j8) F1)
def f33:Nat->Hint:=fun i=>
 match i with
 |100000=>⟨[],[1,2],[],[],[],[]⟩
 |_=>o5
abbrev f7t(a7:V8):Env:=M5 f33 (d9e N a7) (fun i=>match i with|6=>true|7=>true|8=>true|_=>false) (fun _=>false)
theorem b5u(a7:V8)(j8:Sound Tryz.prog GW x6 202 (W9 fun x y=>a7 y.1.1 y.1.2.1 y.1.2.2.1)):Sound Tryz.prog GW x6 288 (d9g N a7):=
 T5 (f7t N a7) (t6 f33 (d9e N a7) _ _ (d9f N a7 j8)) Tryz.func288 Tryz.call288 (d9g N a7) (fun _ y=>(y.1.1,y.1.2.1,y.1.2.2.1,y.1.2.2.2.2.2.1,y.2.2.1.1,y.2.2.1.2.1,y.2.2.1.2.2.1,y.2.2.2.1)) N
def q9(a:List GPart)(c:Int)(e:d3)(g l:Int)(b:GPart×List τ1×Int×Int):Option (Int×d3×Int×Int×List GPart×List τ1×Int×Int):=br (Zf (a.length + [Zo].length) (.rc .part)) (br (decide (0<=(a.length:Int)/\(a.length:Int)<((a ++ [Zo]).length:Int))) (o3 1 (k8 (n8 (a ++ [Zo]) (a.length:Int)) fun _=>some (c,e,g,l,a3F (a ++ [Zo]) (a.length:Int) b.1,b.2))) none) none
def L5(_N:Nat)(a7:V8)(b:Int)(c:d3)(e g:Int)(l:List GPart)(m:List τ1)(o p:Int):Option (Int×d3×Int×Int×List GPart×List τ1×Int×Int):=q7 (q7 (q7 (k8 (a7 m o p) fun a=>o3 1 (q9 l b c e g a)) (o3 1 (o3 1 (k8 (a7 m o p) fun a=>q9 l b c e g a)))) (o3 1 (q7 (o3 1 (k8 (a7 m o p) fun a=>q9 l b c e g a)) (k8 (a7 m o p) fun a=>q9 l b c e g a)))) (q7 (q7 (q7 (k8 (a7 m o p) fun a=>o3 1 (q9 l b c e g a)) (o3 1 (o3 1 (k8 (a7 m o p) fun a=>q9 l b c e g a)))) (q7 (k8 (a7 m o p) fun a=>q7 (o3 1 (q9 l b c e g a)) (q9 l b c e g a)) (q7 (o3 1 (k8 (a7 m o p) fun a=>q9 l b c e g a)) (k8 (a7 m o p) fun a=>q9 l b c e g a)))) (o3 1 (q7 (o3 1 (k8 (a7 m o p) fun a=>q9 l b c e g a)) (k8 (a7 m o p) fun a=>q9 l b c e g a))))
abbrev f2X:=E3 [.box 0 0,.box 1 0] [.cells [V0,V1,V0,.nilS,.nilS,V0,.row 2],.cells [.box 3 0],.row 273 (.rc .part) true,.cells [V2,V0,V0]] [] [.cells [V0,V1,V0,.nilS,.nilS,V0,.row 2],.cells [.box 3 0],.row 273 (.rc .part) true,.cells [V2,V0,V0]] (Int×d3×Int×Int×List GPart×List τ1×Int×Int) fun z=>((),(z.1,z.2.1,z.2.2.1,(),(),z.2.2.2.1,(),()),((),()),z.2.2.2.2.1,(z.2.2.2.2.2.1,z.2.2.2.2.2.2.1,z.2.2.2.2.2.2.2,()),())
abbrev e2r(a7:V8):AF:=f2X fun _ y=>let z:=y.2.2.2.1;L5 N a7 y.1.1 y.1.2.1 y.1.2.2.1 y.1.2.2.2.2.2.1 y.2.2.1 z.1 z.2.1 z.2.2.1
def d77(_N:Nat)(a7:V8):FuncId->Option Tmp->Option AF:=fun f _=>P0 [(202,W9 fun _ y=>a7 y.1.1 y.1.2.1 y.1.2.2.1)] f
theorem d78(a7:V8)(j8:Sound Tryz.prog GW x6 202 (W9 fun x y=>a7 y.1.1 y.1.2.1 y.1.2.2.1)):∀f q F,d77 N a7 f q=some F->Sound Tryz.prog GW x6 f F:=fun _ _ _ h=>r9 h (u4 (j8) F1)
def f2W:Nat->Hint:=fun i=>
 match i with
 |100000=>⟨[],[1,2],[],[],[],[]⟩
 |_=>o5
abbrev f6Y(a7:V8):Env:=M5 f2W (d77 N a7) (fun i=>match i with|6=>true|7=>true|8=>true|_=>false) (fun _=>false)
theorem c3A(a7:V8)(j8:Sound Tryz.prog GW x6 202 (W9 fun x y=>a7 y.1.1 y.1.2.1 y.1.2.2.1)):Sound Tryz.prog GW x6 288 (e2r N a7):=
 T5 (f6Y N a7) (t6 f2W (d77 N a7) _ _ (d78 N a7 j8)) Tryz.func288 Tryz.call288 (e2r N a7) (fun _ y=>let z:=y.2.2.2.1;(y.1.1,y.1.2.1,y.1.2.2.1,y.1.2.2.2.2.2.1,y.2.2.1,z.1,z.2.1,z.2.2.1)) N
def b1q(a7:V8)(k0 self:ρ7)(o:List τ1)(p q c:Int)(e:d3)(g l:Int)(m:List GPart):Option (τh):=k8 (n3 N 4 [44] o p q) fun b=>br (b.1) (k8 (L5 N a7 c e g l m b.2.1 b.2.2.1 b.2.2.2) fun a=>self a.2.2.2.2.2.1 a.2.2.2.2.2.2.1 a.2.2.2.2.2.2.2 a.1 a.2.1 a.2.2.1 a.2.2.2.1 a.2.2.2.2.1) (k0 b.2.1 b.2.2.1 b.2.2.2 c e g l m)
def c3Q(N:Nat)(a7:V8)(k0:ρ7):Nat->τ22->Int->Int->Int->d3->Int->Int->(List GPart)->Option (τh)|0,_,_,_,_,_,_,_,_=>none|n+1,a,b,c,e,g,l,m,o=>b1q N a7 k0 (c3Q N a7 k0 n) a b c e g l m o
def L0(a7:V8)(e:d3)(K:Bool)(E:List τ1)(H J g:Int)(l:d3)(m o:Int):Option (τh):=br (K) (k8 (n3 N 4 e E H J) fun c=>br (c.1) (some (c.2.1,c.2.2.1,c.2.2.2,g,l,m,o,[])) (k8 (H0 N a7 g l m o c.2.1 c.2.2.1 c.2.2.2) fun a=>c3Q N a7 (fun p q r t u v w B=>k8 (l8 N e p q r) fun C=>some (C.1,C.2.1,C.2.2,t,u,v,w,B)) N a.2.2.2.2.1 a.2.2.2.2.2.1 a.2.2.2.2.2.2.1 a.1 a.2.1 a.2.2.1 a.2.2.2.1 a.2.2.2.2.2.2.2)) (k8 (H0 N a7 g l m o E H J) fun b=>c3Q N a7 (fun p q r t u v w B=>k8 (l8 N e p q r) fun D=>some (D.1,D.2.1,D.2.2,t,u,v,w,B)) N b.2.2.2.2.1 b.2.2.2.2.2.1 b.2.2.2.2.2.2.1 b.1 b.2.1 b.2.2.1 b.2.2.2.1 b.2.2.2.2.2.2.2)
abbrev f4i:=E3 [.box 0 0,V1,V3,.fnc 288 [1,2]] [.cells [V2,V0,V0],.cells [V0,V1,V0,.nilS,.nilS,V0,.nilS],.cells [.box 0 0]] [] [.cells [V2,V0,V0],.cells [V0,V1,V0,.nilS,.nilS,V0,.v (.sl (.rc .part))],.cells [.box 0 0]] (τh) fun z=>((),(z.1,z.2.1,z.2.2.1,()),(z.2.2.2.1,z.2.2.2.2.1,z.2.2.2.2.2.1,(),(),z.2.2.2.2.2.2.1,z.2.2.2.2.2.2.2,()),((),()),())
abbrev e2W(a7:V8):AF:=f4i fun x y=>L0 N a7 x.2.1 x.2.2.1 y.1.1 y.1.2.1 y.1.2.2.1 y.2.1.1 y.2.1.2.1 y.2.1.2.2.1 y.2.1.2.2.2.2.2.1
abbrev e5c:SV []->BV [.cells [V2,V0,V0],.cells [V0,V1,V0,.nilS,.nilS,V0,.v (.sl (.rc .part))],.cells [.box 0 0]]->(τh):=fun _ y=>let z:=y.2.1.2;(y.1.1,y.1.2.1,y.1.2.2.1,y.2.1.1,z.1,z.2.1,z.2.2.2.2.1,z.2.2.2.2.2.1)
def c8w(a7:V8):FuncId->Option Tmp->Option AF:=fun f q=>
 match f with
  |138=>some (b5C N)
  |140=>some (b57 N)
  |288=>match q with|some 15=>some (d9g N a7)|some 19=>some (e2r N a7)|_=>none
  |_=>none
theorem d9l(a7:V8)(j8:Sound Tryz.prog GW x6 202 (W9 fun x y=>a7 y.1.1 y.1.2.1 y.1.2.2.1)):∀f q F,c8w N a7 f q=some F->Sound Tryz.prog GW x6 f F:=by
 intro f q F h;unfold c8w at h;split at h
 ·cases h;exact a04 N
 ·cases h;exact a03 N
 ·split at h
  ·cases h;exact b5u N a7 j8
  ·cases h;exact c3A N a7 j8
  ·cases h
 ·cases h
def f4h:Nat->Hint:=fun i=>
 match i with
 |0=>⟨[],[0,1,3],[0,1,2,101500],[0,1],[0,1,2,101500],[]⟩
 |_=>o5
abbrev e2V(a7:V8):Env:=M5 f4h (c8w N a7) (fun _=>false) (fun _=>false)
abbrev f7x(a7:V8):=B4 (e2V N a7) Tryz.f141 (e2W N a7) e5c
abbrev c3R:List (Nat×Sl):=[(0,.box 0 0),(1,V1),(3,.fnc 288 [1,2])]
abbrev b5v:List (Nat×Sb):=[(0,.cells [V2,V0,V0]),(1,.cells [V0,V1,V0,.nilS,.nilS,V0,.row 101500]),(2,.cells [.box 0 0]),(101500,.row 273 (.rc .part) true)]
def b8n(x:FV c3R)(y:HV b5v):St:=⟨23,[(0,.box 0 0),(1,.v .str x.2.1)],unH b5v y⟩
def c8v(a7:V8):T9 ((τh)) c3R b5v:=fun K n x y=>c3Q N a7 (fun a b c e g l m o=>K 0 (b8n x ((a,b,c,y.1.2.2.2),(e,g,l,y.2.1.2.2.2.1,y.2.1.2.2.2.2.1,m,y.2.1.2.2.2.2.2.2),y.2.2.1,o,y.2.2.2.2))) n y.1.1 y.1.2.1 y.1.2.2.1 y.2.1.1 y.2.1.2.1 y.2.1.2.2.1 y.2.1.2.2.2.2.2.1 y.2.2.2.1
def e5b(a7:V8):Nat->Code->St->(Ex->St->Option (τh))->Option (τh):=fun i c=>
 match i with
 |0=>U4 (e2V N a7) N 23 (c8v N a7) 0 c
 |i=>LpD (e2V N a7) N i c
theorem e9q(a7:V8):B2 (e5b N a7) (e2V N a7) N (f7x N a7) 0 b9J:=
 o0 (c8v N a7) (fun K f x y=>b1q N a7 (fun a b c e g l m o=>K 0 (b8n x ((a,b,c,y.1.2.2.2),(e,g,l,y.2.1.2.2.2.1,y.2.1.2.2.2.2.1,m,y.2.1.2.2.2.2.2.2),y.2.2.1,o,y.2.2.2.2))) (fun p q r t u v w B=>f x ((p,q,r,y.1.2.2.2),(t,u,v,y.2.1.2.2.2.1,y.2.1.2.2.2.2.1,w,y.2.1.2.2.2.2.2.2),y.2.2.1,B,y.2.2.2.2)) y.1.1 y.1.2.1 y.1.2.2.1 y.2.1.1 y.2.1.2.1 y.2.1.2.2.1 y.2.1.2.2.2.2.2.1 y.2.2.2.1)
theorem d9m(a7:V8)(j8:Sound Tryz.prog GW x6 202 (W9 fun x y=>a7 y.1.1 y.1.2.1 y.1.2.2.1)):Sound Tryz.prog GW x6 141 (e2W N a7):=
 a0l (t6 f4h (c8w N a7) _ _ (d9l N a7 j8)) Tryz.func141 Tryz.call141 (e2W N a7) e5c N (e5b N a7) (P5 (e9q N a7) U6)
end
end
end Go.Proofs.YtckdohagilcloaaGreatDoor
