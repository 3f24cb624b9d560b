/- Calls of functions that are carried out: what a function does at given values is told by carrying it out, in the machine of values. -/
import Derived.Test.YtahjncefiegflaaGreatDoorQBmDf
namespace Go.Proofs.YtahjncefiegflaaGreatDoor
set_option linter.unusedVariables false
set_option linter.unusedSimpArgs false
open Go Go.RowKit
/-- What is told of a call before it: the shapes, the state with which it begins, and maps that do not change any more. -/
structure Dyn where
  ps : List Sl
  bs : List Sb
  s0 : St
  fz : List Nat
structure Dyn' where
  rs : List Sl
  cs : List Sb
section
variable {R : Type}
noncomputable def numK (r : Nat) (l : List Nat) : Nat → (Option Nat → Option R) → Option R :=
  List.rec (motive := fun _ => Nat → (Option Nat → Option R) → Option R) (fun _ k => k none) (fun q _ ih i k => match Nat.beq q r with | true => k (some i) | false => ih (i + 1) k) l
/-- The number of a name; it is put to the numbered ones. -/
noncomputable def noK (ρ : List Nat) (r : Nat) (k : Nat → List Nat → Option R) : Option R := numK r ρ 0 fun o => match o with
  | some j => k j ρ
  | none => k ρ.length (ρ ++ [r])
noncomputable def nosK (l : List Nat) : List Nat → List Nat → (List Nat → List Nat → Option R) → Option R :=
  List.rec (motive := fun _ => List Nat → List Nat → (List Nat → List Nat → Option R) → Option R) (fun js ρ k => k js ρ) (fun r _ ih js ρ k => noK ρ r fun j ρ => ih (js ++ [j]) ρ k) l
/-- The shape of what a slot holds. rows: rows are handed on with their names. -/
noncomputable def slK (st : St) (rows dat : Bool) (ty : Option Ty) (ρ : List Nat) (d : D) (k : Sl → List Nat → Option R) : Option R := match d with
  | .dead => k .dead ρ
  | .skip => k .skip ρ
  | .bl _ => k (.v .bool) ρ
  | .v t _ => k (.v t) ρ
  | .nilS => match dat, ty with
    | true, some t => k (.v t) ρ
    | _, _ => k .nilS ρ
  | .nilP => k .nilP ρ
  | .at_ t _ => k (.at_ t) ρ
  | .row r => match rows with
    | false => match aget st.hp r with
      | some (.row _ t _ _) => k (.v (.sl t)) ρ
      | _ => none
    | true => noK ρ r fun j ρ => k (.row j) ρ
  | .mref r => noK ρ r fun j ρ => k (.mref j) ρ
  | .box r o => noK ρ r fun j ρ => k (.box j o) ρ
  | .fnc f l => nosK l [] ρ fun js ρ => k (.fnc f js) ρ
  | .tup true _ => match ty with
    | some t => k (.v t) ρ
    | none => none
  | _ => none
noncomputable def slsK (st : St) (rows dat : Bool) (l : List D) : List (Option Ty) → List Nat → (List Sl → List Nat → Option R) → Option R :=
  List.rec (motive := fun _ => List (Option Ty) → List Nat → (List Sl → List Nat → Option R) → Option R) (fun _ ρ k => k [] ρ)
    (fun d _ ih ts ρ k => slK st rows dat (match ts with | t :: _ => t | [] => none) ρ d fun s ρ => ih (match ts with | _ :: ts => ts | [] => []) ρ fun l ρ => k (s :: l) ρ) l
noncomputable def sbK (st : St) (r : Nat) (ρ : List Nat) (k : Sb → List Nat → Option R) : Option R := match aget st.hp r with
  | some (.cells ds) => slsK st true false ds [] ρ fun l ρ => k (.cells l) ρ
  | some (.map e _) => k (.map e) ρ
  | some (.row e t ex _) => k (.row e t ex) ρ
  | some (.iter _ _ _) => none
  | none => k .none ρ
/-- The shapes of all that has a number. -/
noncomputable def sbsK (st : St) : Nat → Nat → List Nat → List Sb → (List Sb → Option R) → Option R
  | 0, _, _, _, _ => none
  | n + 1, j, ρ, acc, k => match ρ[j]? with
    | some r => sbK st r ρ fun b ρ => sbsK st n (j + 1) ρ (acc ++ [b]) k
    | none => natsK [] fun _ => k acc
end
def mapsOf : List D → List Nat
  | [] => []
  | .mref r :: l => r :: mapsOf l
  | _ :: l => mapsOf l
/-- How functions are called: which ones there are, of which the values are rows that they write, and maps that do not change any more. -/
structure Call' where
  fn : FuncId → Option Func
  rows : FuncId → Bool
  frz : FuncId → Bool
  exq : FuncId → Nat → Bool
  /-- those that put off a call; those that may be put off -/
  dfr : FuncId → Bool
  rcv : FuncId → Bool
  /-- those to which a nil slice is handed as data -/
  dat : FuncId → Bool
noncomputable def dynI (C : Call') (E : Env) (fn : Func) (st : St) (f : FuncId) (ds : List D) : Option Dyn :=
  mapK id ds fun ds => natsK (match C.frz f with | true => mapsOf ds | false => []) fun fz => frzK fz ds st fun ds st =>
      slsK st (C.rows f) (C.dat f) ds (fn.params.toList.map E.ty) [] fun ps ρ => sbsK st 1000 0 ρ [] fun bs =>
      mtsK st ps ds [] [] fun x ρ β => mbsK st bs 0 ρ β fun y ρ β =>
      amapK id (start fn ps bs x y).fr fun fr => amapBK id (start fn ps bs x y).hp fun hp => some ⟨ps, bs, ⟨fn.ntmps, fr, hp⟩, fz⟩
noncomputable def dynR (E : Env) (fn : Func) (n : Nat) (sE : St) : Option Dyn' :=
  resDs E sE fn.results.toList [] fun ds' => slsK sE true false ds' (fn.resultTypes.toList.map E.ty) (upto n) fun rs ρ' => sbsK sE 1000 0 ρ' [] fun cs => some ⟨rs, cs⟩
noncomputable def dynF (E : Env) (fn : Func) (i : Dyn) (sE : St) (z : Dyn') : AF :=
  { ps := i.ps, bs := i.bs, rs := z.rs, cs := z.cs, R := SV z.rs × BV z.cs, out := fun z => z
    f := fun x y => match St.same (start fn i.ps i.bs x y) i.s0 with
      | true => resD E fn { ps := i.ps, bs := i.bs, rs := z.rs, cs := z.cs, R := SV z.rs × BV z.cs, out := fun z => z, f := fun _ _ => none } Prod.mk sE
      | false => none }
def Env.wx (E : Env) (x : Nat → Bool) : Env := { E with exq := x }
noncomputable def dynE (C : Call') (E1 : Env) (N : Nat) (st : St) (f : FuncId) (q : Option Tmp) (ds : List D) : Option (AF × List Nat) :=
  (fun E => match C.fn f with
  | some fn => match fn.body with
    | some c => match dynI C E fn st f ds with
      | some i => match (match C.dfr f with | true => endD C.rcv E N fn c i.s0 | false => endC E N fn c i.s0) with
        | some sE => match dynR E fn i.bs.length sE with
          | some z => match Nat.ble i.ps.length fn.ntmps, Nat.ble i.bs.length 1000, keptF i.bs z.cs with
            | true, true, false => some (dynF E fn i sE z, i.fz)
            | _, _, _ => none
          | none => none
        | none => none
      | none => none
    | none => none
  | none => none) (E1.wx (C.exq f))
section
variable {P : Program} {df : List Deferred} {G : World → Prop} {B0 : Nat} {E : Env}
theorem dynE_sound {C : Call'} (hE : EnvOk P G B0 E) (hC : ∀ f fn, C.fn f = some fn → P.funcs[f]? = some fn ∧ ∀ (args : Array Value) (w : World), (callFunc f args).run P w = .ok (.enter f args) w) (hR : ∀ f, C.rcv f = true → (∀ (args : Array Value) (w : World), (callFunc f args).run P w = .ok (.enter f args) w) ∧ ∀ (caps : Array Value) (w : World), CallsD P f caps .returning w fun e u w' => (∃ v, e = .returned v) ∧ u = .returning ∧ w' = w) (N : Nat)
    {st : St} {f : FuncId} {q : Option Tmp} {ds : List D} {F : AF} {l : List Nat} (h : dynE C E N st f q ds = some (F, l)) : Sound P G B0 f F := by
  unfold dynE at h
  dsimp only at h
  have hE : EnvOk P G B0 (E.wx (C.exq f)) := { ty := hE.ty, el := hE.el, fld := hE.fld, mp := hE.mp, bld := hE.bld, ptr := hE.ptr, cmp := hE.cmp, fn := hE.fn, stable := hE.stable, mixed := hE.mixed, dyn := hE.dyn }
  split at h
  · rename_i fn hfn
    split at h
    · rename_i c hb
      split at h
      · rename_i i hi
        split at h
        · rename_i sE hsE
          split at h
          · rename_i z hz
            split at h
            · rename_i h1 h2 h3
              cases h
              obtain ⟨hf, hcall⟩ := hC _ _ hfn
              cases hdf : C.dfr f with
              | false =>
               rw [hdf] at hsE
               refine runC_sound hE hf hb hcall _ Prod.mk (fun _ _ => rfl) N h1 h2 (fun x y r hr => ?_) h3
               show ∃ sE, endC _ N fn c (start fn i.ps i.bs x y) = some sE ∧ _
               change (match St.same (start fn i.ps i.bs x y) i.s0 with | true => _ | false => none) = some r at hr
               split at hr
               · rename_i hs
                 exact ⟨sE, by rw [St.same_eq _ _ hs]; exact hsE, hr⟩
               · cases hr
              | true =>
              rw [hdf] at hsE
              refine runDf_sound hE hf hb hcall _ Prod.mk (fun _ _ => rfl) N h1 h2 (rcv := C.rcv) (fun f h => (hR f h).1) (fun f h => (hR f h).2) (fun x y r hr => ?_) h3
              show ∃ sE, endD _ _ N fn c (start fn i.ps i.bs x y) = some sE ∧ _
              change (match St.same (start fn i.ps i.bs x y) i.s0 with | true => _ | false => none) = some r at hr
              split at hr
              · rename_i hs
                exact ⟨sE, by rw [St.same_eq _ _ hs]; exact hsE, hr⟩
              · cases hr
            · cases h
          · cases h
        · cases h
      · cases h
    · cases h
  · cases h
def Env.rawE (E : Env) : Env := { E with raw := true }
theorem rawE_ok (h : EnvOk P G B0 E) : EnvOk P G B0 E.rawE := { ty := h.ty, el := h.el, fld := h.fld, mp := h.mp, bld := h.bld, ptr := h.ptr, cmp := h.cmp, fn := h.fn, stable := h.stable, mixed := h.mixed, dyn := h.dyn }
/-- A table of functions: these are the program's, and they are entered when called. -/
def FnsOk (P : Program) : List (FuncId × Func) → Prop
  | [] => True
  | p :: l => (P.funcs[p.1]? = some p.2 ∧ ∀ (args : Array Value) (w : World), (callFunc p.1 args).run P w = .ok (.enter p.1 args) w) ∧ FnsOk P l
theorem fnsOk_get {P : Program} : ∀ (l : List (FuncId × Func)), FnsOk P l → ∀ f fn, aget l f = some fn → P.funcs[f]? = some fn ∧ ∀ (args : Array Value) (w : World), (callFunc f args).run P w = .ok (.enter f args) w
  | [], _, f, fn, h => by cases h
  | p :: l, hl, f, fn, h => by
    rw [aget_cons] at h
    split at h
    · rename_i e
      have e : p.1 = f := Nat.eq_of_beq_eq_true e
      cases h
      rw [← e]
      exact hl.1
    · exact fnsOk_get l hl.2 f fn h
/-- The machine that carries out calls, n of them one within the other. -/
noncomputable def mkDyn (E : Env) (C : Call') (N : Nat) : Nat → Env :=
  Nat.rec (motive := fun _ => Env) E fun _ E' => { E with dyn := dynE C E' N }
theorem mkDyn_ok (hE : EnvOk P G B0 E) {C : Call'} (hC : ∀ f fn, C.fn f = some fn → P.funcs[f]? = some fn ∧ ∀ (args : Array Value) (w : World), (callFunc f args).run P w = .ok (.enter f args) w) (hR : ∀ f, C.rcv f = true → (∀ (args : Array Value) (w : World), (callFunc f args).run P w = .ok (.enter f args) w) ∧ ∀ (caps : Array Value) (w : World), CallsD P f caps .returning w fun e u w' => (∃ v, e = .returned v) ∧ u = .returning ∧ w' = w) (N : Nat) : ∀ n, EnvOk P G B0 (mkDyn E C N n)
  | 0 => hE
  | n + 1 => { ty := hE.ty, el := hE.el, fld := hE.fld, mp := hE.mp, bld := hE.bld, ptr := hE.ptr, cmp := hE.cmp, fn := hE.fn, stable := hE.stable, mixed := hE.mixed
               dyn := fun st f q ds F l h => dynE_sound (q := q) (mkDyn_ok hE hC hR N n) hC hR N h }
/-- A function without arguments that hands back a truth value. -/
noncomputable def evalB (E : Env) (N : Nat) (fn : Func) : Option Bool :=
  match fn.body with
  | some c => match endC E N fn c (start fn [] [] () ()) with
    | some sE => resD E fn { ps := [], bs := [], rs := [.v .bool], cs := [], R := Bool, out := fun z => ((z, ()), ()), f := fun _ _ => none } (fun x _ => x.1) sE
    | none => none
  | none => none
theorem evalB_sound (hE : EnvOk P G B0 E) {f : FuncId} {fn : Func} (hf : P.funcs[f]? = some fn) (hcall : ∀ (args : Array Value) (w : World), (callFunc f args).run P w = .ok (.enter f args) w) (N : Nat) {b : Bool} (h : evalB E N fn = some b) :
    Sound P G B0 f { ps := [], bs := [], rs := [.v .bool], cs := [], R := Bool, out := fun z => ((z, ()), ()), f := fun _ _ => some b } := by
  unfold evalB at h
  split at h
  · rename_i c hb
    split at h
    · rename_i sE hsE
      refine runC_sound hE hf hb hcall _ (fun x _ => x.1) (fun _ _ => rfl) N (by rw [Nat.ble_eq]; exact Nat.zero_le _) rfl (fun x y z hz => ?_) rfl
      cases hz
      exact ⟨sE, hsE, h⟩
    · cases h
  · cases h
end
end Go.Proofs.YtahjncefiegflaaGreatDoor


/- Loops over a list, without fuel. No program in sight. -/
namespace Go.Proofs.YtahjncefiegflaaGreatDoor
set_option linter.unusedVariables false
set_option linter.unusedSimpArgs false
open Go Go.RowKit
theorem geti_nat {α : Type} (xs : List α) (i : Nat) : geti xs (i : Int) = xs[i]? := by unfold geti; rw [if_pos (by omega)]; rfl
theorem geti_lt {α : Type} (xs : List α) {i : Nat} (h : i < xs.length) : geti xs (i : Int) = some xs[i] := by rw [geti_nat, List.getElem?_eq_getElem h]
theorem wrap_id {n : Int} (h0 : -9223372036854775808 ≤ n) (h : n ≤ 9223372036854775807) : IntKind.i64.wrap n = n := by
  simp [IntKind.wrap, IntKind.signed, IntKind.bits]
  omega
theorem v8_beq (a b : UInt8) : (a == b) = decide (a.toNat = b.toNat) := by
  show decide (a = b) = _
  exact decide_eq_decide.2 UInt8.toNat_inj.symm
theorem lt_tt {α : Type} {xs : List α} {i : Nat} (h : i < xs.length) : decide ((i : Int) < (xs.length : Int)) = true := decide_eq_true (by omega)
theorem lt_ff {α : Type} {xs : List α} : decide ((xs.length : Int) < (xs.length : Int)) = false := decide_eq_false (by omega)
end Go.Proofs.YtahjncefiegflaaGreatDoor


/- More on loops over a list, without fuel. No program in sight. -/
namespace Go.Proofs.YtahjncefiegflaaGreatDoor
set_option linter.unusedVariables false
set_option linter.unusedSimpArgs false
open Go Go.RowKit
end Go.Proofs.YtahjncefiegflaaGreatDoor

