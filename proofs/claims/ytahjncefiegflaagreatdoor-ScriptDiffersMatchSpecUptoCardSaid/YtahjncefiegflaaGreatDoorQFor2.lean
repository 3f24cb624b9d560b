/- Calls of functions that are carried out: what a function does at given values is told by carrying it out, in the machine of values. -/
import Derived.Test.YtahjncefiegflaaGreatDoorQBmDf
namespace Go.Proofs.YtahjncefiegflaaGreatDoor
set_option linter.unusedVariables false
set_option linter.unusedSimpArgs false
open Go Go.RowKit
structure Dyn where
 ps : List Sl
 bs : List Sb
 s0 : St
 fz : List Nat
structure Dyn' where
 rs : List Sl
 cs : List Sb
section
variable {R : Type}
noncomputable def numK (r : Nat) (l : List Nat) : Nat → (Option Nat → Option R) → Option R :=
 List.rec (motive := fun _ => Nat → (Option Nat → Option R) → Option R) (fun _ k => k none) (fun q _ ih i k => match Nat.beq q r with | true => k (some i) | false => ih (i + 1) k) l
noncomputable def noK (ρ : List Nat) (r : Nat) (k : Nat → List Nat → Option R) : Option R := numK r ρ 0 fun o => match o with
 | some j => k j ρ
 | none => k ρ.length (ρ ++ [r])
noncomputable def nosK (l : List Nat) : List Nat → List Nat → (List Nat → List Nat → Option R) → Option R :=
 List.rec (motive := fun _ => List Nat → List Nat → (List Nat → List Nat → Option R) → Option R) (fun js ρ k => k js ρ) (fun r _ ih js ρ k => noK ρ r fun j ρ => ih (js ++ [j]) ρ k) l
noncomputable def slK (st : St) (rows dat : Bool) (ty : Option Ty) (ρ : List Nat) (d : D) (k : Sl → List Nat → Option R) : Option R := match d with
 | .dead => k .dead ρ
 | .skip => k .skip ρ
 | .bl _ => k (.v .bool) ρ
 | .v t _ => k (.v t) ρ
 | .nilS => match dat, ty with
   | true, some t => k (.v t) ρ
   | _, _ => k .nilS ρ
 | .nilP => k .nilP ρ
 | .at_ t _ => k (.at_ t) ρ
 | .row r => match rows with
   | false => match aget st.hp r with
     | some (.row _ t _ _) => k (.v (.sl t)) ρ
     | _ => none
   | true => noK ρ r fun j ρ => k (.row j) ρ
 | .mref r => noK ρ r fun j ρ => k (.mref j) ρ
 | .box r o => noK ρ r fun j ρ => k (.box j o) ρ
 | .fnc f l => nosK l [] ρ fun js ρ => k (.fnc f js) ρ
 | .tup true _ => match ty with
   | some t => k (.v t) ρ
   | none => none
 | _ => none
noncomputable def slsK (st : St) (rows dat : Bool) (l : List D) : List (Option Ty) → List Nat → (List Sl → List Nat → Option R) → Option R :=
 List.rec (motive := fun _ => List (Option Ty) → List Nat → (List Sl → List Nat → Option R) → Option R) (fun _ ρ k => k [] ρ)
   (fun d _ ih ts ρ k => slK st rows dat (match ts with | t :: _ => t | [] => none) ρ d fun s ρ => ih (match ts with | _ :: ts => ts | [] => []) ρ fun l ρ => k (s :: l) ρ) l
noncomputable def sbK (st : St) (r : Nat) (ρ : List Nat) (k : Sb → List Nat → Option R) : Option R := match aget st.hp r with
 | some (.cells ds) => slsK st true false ds [] ρ fun l ρ => k (.cells l) ρ
 | some (.map e _) => k (.map e) ρ
 | some (.row e t ex _) => k (.row e t ex) ρ
 | some (.iter _ _ _) => none
 | none => k .none ρ
noncomputable def sbsK (st : St) : Nat → Nat → List Nat → List Sb → (List Sb → Option R) → Option R
 | 0, _, _, _, _ => none
 | n + 1, j, ρ, acc, k => match ρ[j]? with
   | some r => sbK st r ρ fun b ρ => sbsK st n (j + 1) ρ (acc ++ [b]) k
   | none => natsK [] fun _ => k acc
end
def mapsOf : List D → List Nat
 | [] => []
 | .mref r :: l => r :: mapsOf l
 | _ :: l => mapsOf l
structure Call' where
 fn : FuncId → Option Func
 rows : FuncId → Bool
 frz : FuncId → Bool
 exq : FuncId → Nat → Bool
 /-- those that put off a call; those that may be put off -/
 dfr : FuncId → Bool
 rcv : FuncId → Bool
 /-- those to which a nil slice is handed as data -/
 dat : FuncId → Bool
noncomputable def dynI (C : Call') (E : Env) (fn : Func) (st : St) (f : FuncId) (ds : List D) : Option Dyn :=
 mapK id ds fun ds => natsK (match C.frz f with | true => mapsOf ds | false => []) fun fz => frzK fz ds st fun ds st =>
     slsK st (C.rows f) (C.dat f) ds (fn.params.toList.map E.ty) [] fun ps ρ => sbsK st 1000 0 ρ [] fun bs =>
     mtsK st ps ds [] [] fun x ρ β => mbsK st bs 0 ρ β fun y ρ β =>
     amapK id (start fn ps bs x y).fr fun fr => amapBK id (start fn ps bs x y).hp fun hp => some ⟨ps, bs, ⟨fn.ntmps, fr, hp⟩, fz⟩
noncomputable def dynR (E : Env) (fn : Func) (n : Nat) (sE : St) : Option Dyn' :=
 resDs E sE fn.results.toList [] fun ds' => slsK sE true false ds' (fn.resultTypes.toList.map E.ty) (upto n) fun rs ρ' => sbsK sE 1000 0 ρ' [] fun cs => some ⟨rs, cs⟩
noncomputable def dynF (E : Env) (fn : Func) (i : Dyn) (sE : St) (z : Dyn') : AF :=
 { ps := i.ps, bs := i.bs, rs := z.rs, cs := z.cs, R := SV z.rs × BV z.cs, out := fun z => z
   f := fun x y => match St.same (start fn i.ps i.bs x y) i.s0 with
     | true => resD E fn { ps := i.ps, bs := i.bs, rs := z.rs, cs := z.cs, R := SV z.rs × BV z.cs, out := fun z => z, f := fun _ _ => none } Prod.mk sE
     | false => none }
def Env.wx (E : Env) (x : Nat → Bool) : Env := { E with exq := x }
noncomputable def dynE (C : Call') (E1 : Env) (N : Nat) (st : St) (f : FuncId) (q : Option Tmp) (ds : List D) : Option (AF × List Nat) :=
 (fun E => match C.fn f with
 | some fn => match fn.body with
   | some c => match dynI C E fn st f ds with
     | some i => match (match C.dfr f with | true => endD C.rcv E N fn c i.s0 | false => endC E N fn c i.s0) with
       | some sE => match dynR E fn i.bs.length sE with
         | some z => match Nat.ble i.ps.length fn.ntmps, Nat.ble i.bs.length 1000, keptF i.bs z.cs with
           | true, true, false => some (dynF E fn i sE z, i.fz)
           | _, _, _ => none
         | none => none
       | none => none
     | none => none
   | none => none
 | none => none) (E1.wx (C.exq f))
section
variable {P : Program} {df : List Deferred} {G : World → Prop} {B0 : Nat} {E : Env}
theorem dynE_sound {C : Call'} (hE : EnvOk P G B0 E) (hC : ∀ f fn, C.fn f = some fn → P.funcs[f]? = some fn ∧ ∀ (args : Array Value) (w : World), (callFunc f args).run P w = .ok (.enter f args) w) (hR : ∀ f, C.rcv f = true → (∀ (args : Array Value) (w : World), (callFunc f args).run P w = .ok (.enter f args) w) ∧ ∀ (caps : Array Value) (w : World), CallsD P f caps .returning w fun e u w' => (∃ v, e = .returned v) ∧ u = .returning ∧ w' = w) (N : Nat)
   {st : St} {f : FuncId} {q : Option Tmp} {ds : List D} {F : AF} {l : List Nat} (h : dynE C E N st f q ds = some (F, l)) : Sound P G B0 f F := by
 unfold dynE at h
 dsimp only at h
 have hE : EnvOk P G B0 (E.wx (C.exq f)) := { ty := hE.ty, el := hE.el, fld := hE.fld, mp := hE.mp, bld := hE.bld, ptr := hE.ptr, cmp := hE.cmp, fn := hE.fn, stable := hE.stable, mixed := hE.mixed, dyn := hE.dyn }
 split at h
 · rename_i fn hfn
   split at h
   · rename_i c hb
     split at h
     · rename_i i hi
       split at h
       · rename_i sE hsE
         split at h
         · rename_i z hz
           split at h
           · rename_i h1 h2 h3
             cases h
             obtain ⟨hf, hcall⟩ := hC _ _ hfn
             cases hdf : C.dfr f with
             | false =>
              rw [hdf] at hsE
              refine runC_sound hE hf hb hcall _ Prod.mk (fun _ _ => rfl) N h1 h2 (fun x y r hr => ?_) h3
              show ∃ sE, endC _ N fn c (start fn i.ps i.bs x y) = some sE ∧ _
              change (match St.same (start fn i.ps i.bs x y) i.s0 with | true => _ | false => none) = some r at hr
              split at hr
              · rename_i hs
                exact ⟨sE, by rw [St.same_eq _ _ hs]; exact hsE, hr⟩
              · cases hr
             | true =>
             rw [hdf] at hsE
             refine runDf_sound hE hf hb hcall _ Prod.mk (fun _ _ => rfl) N h1 h2 (rcv := C.rcv) (fun f h => (hR f h).1) (fun f h => (hR f h).2) (fun x y r hr => ?_) h3
             show ∃ sE, endD _ _ N fn c (start fn i.ps i.bs x y) = some sE ∧ _
             change (match St.same (start fn i.ps i.bs x y) i.s0 with | true => _ | false => none) = some r at hr
             split at hr
             · rename_i hs
               exact ⟨sE, by rw [St.same_eq _ _ hs]; exact hsE, hr⟩
             · cases hr
           · cases h
         · cases h
       · cases h
     · cases h
   · cases h
 · cases h
def Env.rawE (E : Env) : Env := { E with raw := true }
theorem rawE_ok (h : EnvOk P G B0 E) : EnvOk P G B0 E.rawE := { ty := h.ty, el := h.el, fld := h.fld, mp := h.mp, bld := h.bld, ptr := h.ptr, cmp := h.cmp, fn := h.fn, stable := h.stable, mixed := h.mixed, dyn := h.dyn }
def FnsOk (P : Program) : List (FuncId × Func) → Prop
 | [] => True
 | p :: l => (P.funcs[p.1]? = some p.2 ∧ ∀ (args : Array Value) (w : World), (callFunc p.1 args).run P w = .ok (.enter p.1 args) w) ∧ FnsOk P l
theorem fnsOk_get {P : Program} : ∀ (l : List (FuncId × Func)), FnsOk P l → ∀ f fn, aget l f = some fn → P.funcs[f]? = some fn ∧ ∀ (args : Array Value) (w : World), (callFunc f args).run P w = .ok (.enter f args) w
 | [], _, f, fn, h => by cases h
 | p :: l, hl, f, fn, h => by
   rw [aget_cons] at h
   split at h
   · rename_i e
     have e : p.1 = f := Nat.eq_of_beq_eq_true e
     cases h
     rw [← e]
     exact hl.1
   · exact fnsOk_get l hl.2 f fn h
noncomputable def mkDyn (E : Env) (C : Call') (N : Nat) : Nat → Env :=
 Nat.rec (motive := fun _ => Env) E fun _ E' => { E with dyn := dynE C E' N }
theorem mkDyn_ok (hE : EnvOk P G B0 E) {C : Call'} (hC : ∀ f fn, C.fn f = some fn → P.funcs[f]? = some fn ∧ ∀ (args : Array Value) (w : World), (callFunc f args).run P w = .ok (.enter f args) w) (hR : ∀ f, C.rcv f = true → (∀ (args : Array Value) (w : World), (callFunc f args).run P w = .ok (.enter f args) w) ∧ ∀ (caps : Array Value) (w : World), CallsD P f caps .returning w fun e u w' => (∃ v, e = .returned v) ∧ u = .returning ∧ w' = w) (N : Nat) : ∀ n, EnvOk P G B0 (mkDyn E C N n)
 | 0 => hE
 | n + 1 => { ty := hE.ty, el := hE.el, fld := hE.fld, mp := hE.mp, bld := hE.bld, ptr := hE.ptr, cmp := hE.cmp, fn := hE.fn, stable := hE.stable, mixed := hE.mixed
              dyn := fun st f q ds F l h => dynE_sound (q := q) (mkDyn_ok hE hC hR N n) hC hR N h }
noncomputable def evalB (E : Env) (N : Nat) (fn : Func) : Option Bool :=
 match fn.body with
 | some c => match endC E N fn c (start fn [] [] () ()) with
   | some sE => resD E fn { ps := [], bs := [], rs := [.v .bool], cs := [], R := Bool, out := fun z => ((z, ()), ()), f := fun _ _ => none } (fun x _ => x.1) sE
   | none => none
 | none => none
theorem evalB_sound (hE : EnvOk P G B0 E) {f : FuncId} {fn : Func} (hf : P.funcs[f]? = some fn) (hcall : ∀ (args : Array Value) (w : World), (callFunc f args).run P w = .ok (.enter f args) w) (N : Nat) {b : Bool} (h : evalB E N fn = some b) :
   Sound P G B0 f { ps := [], bs := [], rs := [.v .bool], cs := [], R := Bool, out := fun z => ((z, ()), ()), f := fun _ _ => some b } := by
 unfold evalB at h
 split at h
 · rename_i c hb
   split at h
   · rename_i sE hsE
     refine runC_sound hE hf hb hcall _ (fun x _ => x.1) (fun _ _ => rfl) N (by rw [Nat.ble_eq]; exact Nat.zero_le _) rfl (fun x y z hz => ?_) rfl
     cases hz
     exact ⟨sE, hsE, h⟩
   · cases h
 · cases h
end
end Go.Proofs.YtahjncefiegflaaGreatDoor


/- Lists in order, each name once. No program in sight. -/
namespace Go.Proofs.YtahjncefiegflaaGreatDoor
set_option linter.unusedVariables false
open Go
theorem perm_strict {α : Type} {R : α → α → Prop} (hirr : ∀ a b, R a b → R b a → False) : ∀ (l1 l2 : List α), l1.Perm l2 → l1.Pairwise R → l2.Pairwise R → l1 = l2
 | [], l2, h, _, _ => (List.nil_perm.1 h).symm
 | a :: l1, [], h, _, _ => by have := h.length_eq; simp at this
 | a :: l1, b :: l2, h, h1, h2 => by
   have hab : a = b := by
     apply Classical.byContradiction
     intro hne
     have ha : a ∈ b :: l2 := h.subset (List.mem_cons_self ..)
     have hb : b ∈ a :: l1 := h.symm.subset (List.mem_cons_self ..)
     rcases List.mem_cons.1 ha with e | ha
     · exact hne e
     · rcases List.mem_cons.1 hb with e | hb
       · exact hne e.symm
       · exact hirr a b ((List.pairwise_cons.1 h1).1 b hb) ((List.pairwise_cons.1 h2).1 a ha)
   subst hab
   rw [perm_strict hirr l1 l2 (List.Perm.cons_inv h) (List.pairwise_cons.1 h1).2 (List.pairwise_cons.1 h2).2]
theorem str_lt_irrefl (a : Str) : ¬ a < a := List.lt_irrefl a
theorem str_lt_trans {a b c : Str} (h1 : a < b) (h2 : b < c) : a < c := List.lt_trans h1 h2
theorem str_tri (a b : Str) (h1 : ¬ a < b) (h2 : ¬ b < a) : a = b := List.le_antisymm h2 h1
end Go.Proofs.YtahjncefiegflaaGreatDoor


/- Things in order by a name that each has but once: what stands for them is in order with them. No program in sight. -/
namespace Go.Proofs.YtahjncefiegflaaGreatDoor
set_option linter.unusedVariables false
open Go
def leKey {α : Type} (key : α → Str) (a b : α) : Bool := decide (key a ≤ key b)
theorem sorted_strictK {α : Type} {key : α → Str} {l : List α} (hn : (l.map key).Nodup) (hs : l.Pairwise fun a b => ¬ key b < key a) : l.Pairwise fun a b => key a < key b := by
 induction l with
 | nil => exact List.Pairwise.nil
 | cons a l ih =>
   rw [List.map_cons, List.nodup_cons] at hn
   obtain ⟨h1, h2⟩ := List.pairwise_cons.1 hs
   refine List.pairwise_cons.2 ⟨fun b hb => ?_, ih hn.2 h2⟩
   apply Classical.byContradiction
   intro hlt
   have := str_tri _ _ hlt (h1 b hb)
   exact hn.1 (this ▸ List.mem_map.2 ⟨b, hb, rfl⟩)
theorem mergeSort_key {α : Type} (key : α → Str) (l : List α) : (l.mergeSort (leKey key)).Pairwise fun a b => ¬ key b < key a := by
 have := List.pairwise_mergeSort (le := leKey key) (fun a b c h1 h2 => by
   simp only [leKey, decide_eq_true_eq] at *
   exact List.le_trans h1 h2) (fun a b => by
   simp only [leKey, Bool.or_eq_true, decide_eq_true_eq]
   exact List.le_total _ _) l
 exact this.imp fun h => by simpa [leKey] using h
theorem sort_uniqueK {α : Type} {key : α → Str} {l d : List α} (hn : (l.map key).Nodup) (hp : d.Perm l) (hs : d.Pairwise fun a b => ¬ key b < key a) : d = l.mergeSort (leKey key) := by
 have hp2 : d.Perm (l.mergeSort (leKey key)) := hp.trans (List.mergeSort_perm l (leKey key)).symm
 have hn1 : (d.map key).Nodup := (hp.map _).nodup_iff.2 hn
 have hn2 : ((l.mergeSort (leKey key)).map key).Nodup := ((List.mergeSort_perm l (leKey key)).map _).nodup_iff.2 hn
 exact perm_strict (R := fun a b => key a < key b) (fun a b h1 h2 => str_lt_irrefl _ (str_lt_trans h1 h2)) d _ hp2 (sorted_strictK hn1 hs) (sorted_strictK hn2 (mergeSort_key key l))
theorem perm_lift {α β : Type} (f : α → β) {d m : List β} (h : d.Perm m) : ∀ {l : List α}, l.map f = m → ∃ l' : List α, l'.Perm l ∧ l'.map f = d := by
 induction h with
 | nil => intro l e; exact ⟨[], by rw [List.map_eq_nil_iff.1 e], rfl⟩
 | cons x _ ih =>
   intro l e
   cases l with
   | nil => cases e
   | cons a l =>
     injection e with e1 e2
     obtain ⟨l', h1, h2⟩ := ih e2
     exact ⟨a :: l', h1.cons a, by rw [List.map_cons, h2, e1]⟩
 | swap x y r =>
   intro l e
   match l, e with
   | a :: b :: l, e =>
     injection e with e1 e2
     injection e2 with e2 e3
     exact ⟨b :: a :: l, List.Perm.swap .., by rw [List.map_cons, List.map_cons, e1, e2, e3]⟩
 | trans _ _ ih1 ih2 =>
   intro l e
   obtain ⟨l2, h1, h2⟩ := ih2 e
   obtain ⟨l1, h3, h4⟩ := ih1 h2
   exact ⟨l1, h3.trans h1, h4⟩
theorem All2.zip {α β : Type} {R : α → β → Prop} : ∀ {l : List α} {m : List β}, All2 R l m → (l.zip m).map (·.1) = l ∧ (l.zip m).map (·.2) = m ∧ ∀ p ∈ l.zip m, R p.1 p.2
 | [], [], _ => ⟨rfl, rfl, fun p h => by cases h⟩
 | a :: l, b :: m, h => by
   obtain ⟨h1, h2, h3⟩ := All2.zip h.2
   refine ⟨by rw [List.zip_cons_cons, List.map_cons, h1], by rw [List.zip_cons_cons, List.map_cons, h2], fun p hp => ?_⟩
   rcases List.mem_cons.1 hp with rfl | hp
   · exact h.1
   · exact h3 p hp
 | [], _ :: _, h => h.elim
 | _ :: _, [], h => h.elim
theorem All2.of_pairs {α β : Type} {R : α → β → Prop} : ∀ {l : List (α × β)}, (∀ p ∈ l, R p.1 p.2) → All2 R (l.map (·.1)) (l.map (·.2))
 | [], _ => trivial
 | p :: l, h => ⟨h p (List.mem_cons_self ..), All2.of_pairs fun q hq => h q (List.mem_cons_of_mem _ hq)⟩
theorem sort_rel {α γ : Type} {key : α → Str} {key' : γ → Str} {R : α → γ → Prop} {xs : List α} {cs d : List γ} (h : All2 R xs cs) (hk : ∀ x c, R x c → key' c = key x) (hn : (xs.map key).Nodup) (hp : d.Perm cs)
   (hs : d.Pairwise fun a b => ¬ key' b < key' a) : All2 R (xs.mergeSort (leKey key)) d := by
 obtain ⟨h1, h2, h3⟩ := h.zip
 obtain ⟨qs, hq, rfl⟩ := perm_lift (fun p : α × γ => p.2) hp h2
 have hR : ∀ p ∈ qs, R p.1 p.2 := fun p hp => h3 p (hq.subset hp)
 have e : qs.map (·.1) = xs.mergeSort (leKey key) := by
   refine sort_uniqueK hn ?_ ?_
   · have := hq.map (·.1)
     rw [h1] at this
     exact this
   · rw [List.pairwise_map] at hs ⊢
     refine List.Pairwise.imp_of_mem (fun {a b} ha hb hlt => ?_) hs
     rw [← hk _ _ (hR a ha), ← hk _ _ (hR b hb)]
     exact hlt
 rw [← e]
 exact All2.of_pairs hR
end Go.Proofs.YtahjncefiegflaaGreatDoor


/- Loops over a list, without fuel. No program in sight. -/
namespace Go.Proofs.YtahjncefiegflaaGreatDoor
set_option linter.unusedVariables false
set_option linter.unusedSimpArgs false
open Go Go.RowKit
def big : Nat := 18446744073709551616
theorem geti_nat {α : Type} (xs : List α) (i : Nat) : geti xs (i : Int) = xs[i]? := by unfold geti; rw [if_pos (by omega)]; rfl
theorem geti_zero {α : Type} (xs : List α) : geti xs 0 = xs[0]? := geti_nat xs 0
theorem geti_lt {α : Type} (xs : List α) {i : Nat} (h : i < xs.length) : geti xs (i : Int) = some xs[i] := by rw [geti_nat, List.getElem?_eq_getElem h]
theorem wrap_id {n : Int} (h0 : -9223372036854775808 ≤ n) (h : n ≤ 9223372036854775807) : IntKind.i64.wrap n = n := by
 simp [IntKind.wrap, IntKind.signed, IntKind.bits]
 omega
theorem wrap_succ {α : Type} {xs : List α} (hx : xs.length ≤ maxLen) {i : Nat} (h : i < xs.length) : IntKind.i64.wrap ((i : Int) + 1) = ((i + 1 : Nat) : Int) := by
 unfold maxLen at hx
 rw [wrap_id (by omega) (by omega)]; rfl
theorem wrap_pred {i : Nat} (h : i ≤ 9223372036854775807) : IntKind.i64.wrap ((i : Int) - 1) = (i : Int) - 1 := wrap_id (by omega) (by omega)
theorem slc_take {α : Type} (xs : List α) {i : Nat} (h : i ≤ xs.length) : slc xs 0 (i : Int) = some (xs.take i) := by
 unfold slc; rw [if_pos ⟨by omega, by omega, by omega⟩]; simp
theorem lt_tt {α : Type} {xs : List α} {i : Nat} (h : i < xs.length) : decide ((i : Int) < (xs.length : Int)) = true := decide_eq_true (by omega)
theorem lt_ff {α : Type} {xs : List α} : decide ((xs.length : Int) < (xs.length : Int)) = false := decide_eq_false (by omega)
def forT {α R : Type} (body : Nat → α → R → R) (k : R) : List α → Nat → R
 | [], _ => k
 | x :: xs, i => body i x (forT body k xs (i + 1))
theorem loop_from {α R : Type} {f : Nat → Int → Option R} {T : (Int → Option R) → Int → Option R} (hf : ∀ n s, f (n + 1) s = T (f n) s) (xs : List α) {body : Nat → α → R → R} {k : R}
   (hT : ∀ (self : Int → Option R) (i : Nat) (h : i < xs.length) (r : R), self ((i + 1 : Nat) : Int) = some r → T self (i : Int) = some (body i xs[i] r))
   (hE : ∀ self : Int → Option R, T self (xs.length : Int) = some k) :
   ∀ (m n i : Nat), i + m = xs.length → m < n → f n (i : Int) = some (forT body k (xs.drop i) i)
 | 0, n, i, hi, hn => by
   obtain ⟨n, rfl⟩ : ∃ j, n = j + 1 := ⟨n - 1, by omega⟩
   have : i = xs.length := by omega
   subst this
   rw [hf, hE, List.drop_length]; rfl
 | m + 1, n, i, hi, hn => by
   obtain ⟨n, rfl⟩ : ∃ j, n = j + 1 := ⟨n - 1, by omega⟩
   have hlt : i < xs.length := by omega
   have ih := loop_from hf xs hT hE m n (i + 1) (by omega) (by omega)
   rw [hf, hT _ i hlt _ ih, List.drop_eq_getElem_cons hlt]; rfl
theorem loop_for {α R : Type} {f : Nat → Int → Option R} {T : (Int → Option R) → Int → Option R} (hf : ∀ n s, f (n + 1) s = T (f n) s) (xs : List α) (hx : xs.length ≤ maxLen) {body : Nat → α → R → R} {k : R}
   (hT : ∀ (self : Int → Option R) (i : Nat) (h : i < xs.length) (r : R), self ((i + 1 : Nat) : Int) = some r → T self (i : Int) = some (body i xs[i] r))
   (hE : ∀ self : Int → Option R, T self (xs.length : Int) = some k) {N : Nat} (hN : big ≤ N) : f N 0 = some (forT body k xs 0) := by
 have := loop_from hf xs hT hE xs.length N 0 (by omega) (by unfold maxLen at hx; unfold big at hN; omega)
 simpa using this
def idxP {α : Type} (p : α → Bool) (xs : List α) : Int := forT (fun i x r => if p x = true then (i : Int) else r) (-1) xs 0
theorem idxP_from {α : Type} (p : α → Bool) : ∀ (xs : List α) (j : Nat), let r := forT (fun i x r => if p x = true then (i : Int) else r) (-1) xs j
   (xs.find? p = none ∧ r = -1) ∨ ∃ i x, xs.find? p = some x ∧ xs[i]? = some x ∧ p x = true ∧ r = ((j + i : Nat) : Int)
 | [], _ => .inl ⟨rfl, rfl⟩
 | x :: xs, j => by
   cases hp : p x with
   | true => exact .inr ⟨0, x, by simp [hp], rfl, hp, by simp [forT, hp]⟩
   | false =>
     rcases idxP_from p xs (j + 1) with ⟨h1, h2⟩ | ⟨i, y, h1, h2, h3, h4⟩
     · exact .inl ⟨by simp [hp, h1], by simp only [forT, hp]; simpa using h2⟩
     · exact .inr ⟨i + 1, y, by simp [hp, h1], by simpa using h2, h3, by simp only [forT, hp]; rw [if_neg (by simp), h4]; congr 1; omega⟩
theorem idxP_cases {α : Type} (p : α → Bool) (xs : List α) : (xs.find? p = none ∧ idxP p xs = -1) ∨ ∃ (i : Nat) (x : α), xs.find? p = some x ∧ xs[i]? = some x ∧ p x = true ∧ idxP p xs = (i : Int) := by
 rcases idxP_from p xs 0 with h | ⟨i, x, h1, h2, h3, h4⟩
 · exact .inl h
 · exact .inr ⟨i, x, h1, h2, h3, by rw [idxP, h4]; simp⟩
theorem idxP_nonneg {α : Type} (p : α → Bool) (xs : List α) : decide (idxP p xs ≥ 0) = xs.any p := by
 rcases idxP_cases p xs with ⟨h1, h2⟩ | ⟨i, x, h1, h2, h3, h4⟩
 · rw [h2]
   have : xs.any p = false := by rw [List.any_eq_false]; intro x hx; have := List.find?_eq_none.1 h1 x hx; simpa using this
   rw [this]; rfl
 · rw [h4]
   have : xs.any p = true := List.any_eq_true.2 ⟨x, List.mem_of_getElem? h2, h3⟩
   rw [this]; exact decide_eq_true (by omega)
end Go.Proofs.YtahjncefiegflaaGreatDoor


/- More on loops over a list, without fuel. No program in sight. -/
namespace Go.Proofs.YtahjncefiegflaaGreatDoor
set_option linter.unusedVariables false
set_option linter.unusedSimpArgs false
open Go Go.RowKit
theorem loop_st_from {S R : Type} {f : Nat → Int → S → Option R} {T : (Int → S → Option R) → Int → S → Option R} (hf : ∀ n i s, f (n + 1) i s = T (f n) i s) (m : Nat) (st : Nat → S) {r : Option R}
   (hT : ∀ (self : Int → S → Option R) (i : Nat), i < m → self ((i + 1 : Nat) : Int) (st (i + 1)) = r → T self (i : Int) (st i) = r)
   (hE : ∀ self : Int → S → Option R, T self (m : Int) (st m) = r) :
   ∀ (d n i : Nat), i + d = m → d < n → f n (i : Int) (st i) = r
 | 0, n, i, hi, hn => by
   obtain ⟨n, rfl⟩ : ∃ j, n = j + 1 := ⟨n - 1, by omega⟩
   have : i = m := by omega
   subst this
   rw [hf, hE]
 | d + 1, n, i, hi, hn => by
   obtain ⟨n, rfl⟩ : ∃ j, n = j + 1 := ⟨n - 1, by omega⟩
   rw [hf]
   exact hT _ i (by omega) (loop_st_from hf m st hT hE d n (i + 1) (by omega) (by omega))
theorem loop_st {S R : Type} {f : Nat → Int → S → Option R} {T : (Int → S → Option R) → Int → S → Option R} (hf : ∀ n i s, f (n + 1) i s = T (f n) i s) {m : Nat} (hm : m ≤ maxLen) (st : Nat → S) {r : Option R}
   (hT : ∀ (self : Int → S → Option R) (i : Nat), i < m → self ((i + 1 : Nat) : Int) (st (i + 1)) = r → T self (i : Int) (st i) = r)
   (hE : ∀ self : Int → S → Option R, T self (m : Int) (st m) = r) {N : Nat} (hN : big ≤ N) : f N 0 (st 0) = r := by
 have := loop_st_from hf m st hT hE m N 0 (by omega) (by unfold maxLen at hm; unfold big at hN; omega)
 simpa using this
theorem br_pos {R : Type} {p : Prop} [Decidable p] {x y : Option R} (h : p) : br (decide p) x y = x := by rw [decide_eq_true h, br_true]
theorem br_neg {R : Type} {p : Prop} [Decidable p] {x y : Option R} (h : ¬ p) : br (decide p) x y = y := by rw [decide_eq_false h, br_false]
end Go.Proofs.YtahjncefiegflaaGreatDoor

