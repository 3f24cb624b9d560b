/- Loops of the machine of values, each by a plain function: what stands at a loop's head is read by a shape. -/
import Derived.Test.YtahjncefiegflaaGreatDoorQBm15
import Derived.Test.YtahjncefiegflaaGreatDoorQBm4
import Derived.Laws.StructEq
import Derived.Lib.Bytealg
import Derived.Test.YtahjncefiegflaaGreatDoorQBm1
import Derived.Defers
namespace Go.Proofs.YtahjncefiegflaaGreatDoor
set_option linter.unusedVariables false
set_option linter.unusedSimpArgs false
open Go Go.RowKit
def cAt : Code → List Bool → Code
 | c, [] => c
 | .seq a _, false :: p => cAt a p
 | .seq _ b, true :: p => cAt b p
 | .cond _ a _, false :: p => cAt a p
 | .cond _ _ b, true :: p => cAt b p
 | .block _ c, _ :: p => cAt c p
 | .loop c, _ :: p => cAt c p
 | c, _ => c
def bodyOf (f : Func) : Code := match f.body with
 | some c => c
 | none => .skip
def un1 : (s : Sl) → s.den → D
 | .dead, _ => .dead
 | .skip, _ => .skip
 | .nilS, _ => .nilS
 | .nilP, _ => .nilP
 | .v t, x => .v t x
 | .at_ t, x => .at_ t x
 | .row r, _ => .row r
 | .mref r, _ => .mref r
 | .box r o, _ => .box r o
 | .fnc f l, _ => .fnc f l
def pr1 : (s : Sl) → D → Option s.den
 | .v t, d => match d with
   | .v t' x => if h : t' = t then some (h ▸ x) else none
   | _ => none
 | .at_ t, d => match d with
   | .at_ t' x => if h : t' = t then some (h ▸ x) else none
   | _ => none
 | .dead, d => match d with
   | .dead => some ()
   | _ => none
 | .skip, d => match d with
   | .skip => some ()
   | _ => none
 | .nilS, d => match d with
   | .nilS => some ()
   | _ => none
 | .nilP, d => match d with
   | .nilP => some ()
   | _ => none
 | .row r, d => match d with
   | .row r' => if r' = r then some () else none
   | _ => none
 | .box r o, d => match d with
   | .box r' o' => if r' = r then (if o' = o then some () else none) else none
   | _ => none
 | .mref r, d => match d with
   | .mref r' => if r' = r then some () else none
   | _ => none
 | .fnc f l, d => match d with
   | .fnc f' l' => if f' = f then (if l' = l then some () else none) else none
   | _ => none
theorem pr1_un (s : Sl) (d : D) (x : s.den) (h : pr1 s d = some x) : un1 s x = d := by
 cases s <;> cases d <;> simp only [pr1, reduceCtorEq] at h <;>
   (repeat' (split at h)) <;> first | (subst_vars; cases h; rfl) | cases h
def unL : (l : List Sl) → SV l → List D
 | [], _ => []
 | s :: l, x => un1 s x.1 :: unL l x.2
noncomputable def prL (l : List Sl) : List D → Option (SV l) :=
 List.rec (motive := fun l => List D → Option (SV l))
   (fun ds => match ds with | [] => some () | _ :: _ => none)
   (fun s _ ih ds => match ds with
     | d :: ds => match pr1 s d with
       | some x => match ih ds with
         | some y => some (x, y)
         | none => none
       | none => none
     | [] => none) l
theorem prL_un : ∀ (l : List Sl) (ds : List D) (x : SV l), prL l ds = some x → unL l x = ds
 | [], [], _, _ => rfl
 | [], _ :: _, _, h => by cases h
 | _ :: _, [], _, h => by cases h
 | s :: l, d :: ds, x, h => by
   change (match pr1 s d with
       | some x => match prL l ds with
         | some y => some (x, y)
         | none => none
       | none => none) = some x at h
   split at h
   · rename_i a ha
     split at h
     · rename_i b hb
       cases h
       show un1 s a :: unL l b = _
       rw [pr1_un s d a ha, prL_un l ds b hb]
     · cases h
   · cases h
@[reducible] def FV : List (Nat × Sl) → Type
 | [] => Unit
 | s :: l => s.2.den × FV l
def unF : (l : List (Nat × Sl)) → FV l → List (Nat × D)
 | [], _ => []
 | s :: l, x => (s.1, un1 s.2 x.1) :: unF l x.2
noncomputable def prF (l : List (Nat × Sl)) : List (Nat × D) → Option (FV l) :=
 List.rec (motive := fun l => List (Nat × D) → Option (FV l))
   (fun ds => match ds with | [] => some () | _ :: _ => none)
   (fun s _ ih ds => match ds with
     | d :: ds => match Nat.beq d.1 s.1, pr1 s.2 d.2 with
       | true, some x => match ih ds with
         | some y => some (x, y)
         | none => none
       | _, _ => none
     | [] => none) l
theorem prF_un : ∀ (l : List (Nat × Sl)) (ds : List (Nat × D)) (x : FV l), prF l ds = some x → unF l x = ds
 | [], [], _, _ => rfl
 | [], _ :: _, _, h => by cases h
 | _ :: _, [], _, h => by cases h
 | s :: l, d :: ds, x, h => by
   change (match Nat.beq d.1 s.1, pr1 s.2 d.2 with
       | true, some x => match prF l ds with
         | some y => some (x, y)
         | none => none
       | _, _ => none) = some x at h
   split at h
   · rename_i a he ha
     split at h
     · rename_i b hb
       cases h
       show (s.1, un1 s.2 a) :: unF l b = _
       rw [pr1_un s.2 d.2 a ha, prF_un l ds b hb, ← Nat.eq_of_beq_eq_true he]
     · cases h
   · cases h
def un2 : (s : Sb) → s.den → Blk
 | .none, _ => .cells []
 | .cells l, x => .cells (unL l x)
 | .map e, x => .map e x
 | .row e t ex, x => .row e t ex x
 | .iter e, x => .iter e x none
noncomputable def pr2 : (s : Sb) → Blk → Option s.den
 | .none, _ => none
 | .cells l, b => match b with
   | .cells ds => prL l ds
   | _ => none
 | .map e, b => match b with
   | .map e' m => if h : e' = e then some (h ▸ m) else none
   | _ => none
 | .row e t ex, b => match b with
   | .row e' t' ex' xs => if h : t' = t then (if e' = e then (if ex' = ex then some (h ▸ xs) else none) else none) else none
   | _ => none
 | .iter e, b => match b with
   | .iter e' m none => if h : e' = e then some (h ▸ m) else none
   | _ => none
theorem pr2_un (s : Sb) (b : Blk) (x : s.den) (h : pr2 s b = some x) : un2 s x = b := by
 cases s with
 | none => cases h
 | cells l => cases b with
   | cells ds => show Blk.cells (unL l x) = _; rw [prL_un l ds x h]
   | map e m => cases h
   | row => cases h
   | iter => cases h
 | map e => cases b with
   | cells ds => cases h
   | map e' m =>
     simp only [pr2] at h
     split at h
     · subst_vars; cases h; rfl
     · cases h
   | row => cases h
   | iter => cases h
 | iter e => cases b with
   | cells ds => cases h
   | map => cases h
   | row => cases h
   | iter e' m c =>
     cases c with
     | some p => cases h
     | none =>
       simp only [pr2] at h
       split at h
       · subst_vars; cases h; rfl
       · cases h
 | row e t ex => cases b with
   | cells ds => cases h
   | map e' m => cases h
   | iter => cases h
   | row e' t' ex' xs =>
     simp only [pr2] at h
     split at h
     · split at h
       · split at h
         · subst_vars; cases h; rfl
         · cases h
       · cases h
     · cases h
@[reducible] def HV : List (Nat × Sb) → Type
 | [] => Unit
 | s :: l => s.2.den × HV l
def unH : (l : List (Nat × Sb)) → HV l → List (Nat × Blk)
 | [], _ => []
 | s :: l, x => (s.1, un2 s.2 x.1) :: unH l x.2
noncomputable def prH (l : List (Nat × Sb)) : List (Nat × Blk) → Option (HV l) :=
 List.rec (motive := fun l => List (Nat × Blk) → Option (HV l))
   (fun ds => match ds with | [] => some () | _ :: _ => none)
   (fun s _ ih ds => match ds with
     | d :: ds => match Nat.beq d.1 s.1, pr2 s.2 d.2 with
       | true, some x => match ih ds with
         | some y => some (x, y)
         | none => none
       | _, _ => none
     | [] => none) l
theorem prH_un : ∀ (l : List (Nat × Sb)) (ds : List (Nat × Blk)) (x : HV l), prH l ds = some x → unH l x = ds
 | [], [], _, _ => rfl
 | [], _ :: _, _, h => by cases h
 | _ :: _, [], _, h => by cases h
 | s :: l, d :: ds, x, h => by
   change (match Nat.beq d.1 s.1, pr2 s.2 d.2 with
       | true, some x => match prH l ds with
         | some y => some (x, y)
         | none => none
       | _, _ => none) = some x at h
   split at h
   · rename_i a he ha
     split at h
     · rename_i b hb
       cases h
       show (s.1, un2 s.2 a) :: unH l b = _
       rw [pr2_un s.2 d.2 a ha, prH_un l ds b hb, ← Nat.eq_of_beq_eq_true he]
     · cases h
   · cases h
section
variable {R : Type}
noncomputable def LPc (n0 : Nat) (fs : List (Nat × Sl)) (bs : List (Nat × Sb)) (F : FV fs → HV bs → (Ex → St → Option R) → Option R) (G : St → (Ex → St → Option R) → Option R) (st : St) (k : Ex → St → Option R) : Option R :=
 match st with
 | ⟨n, fr, hp⟩ => match Nat.beq n n0 with
   | true => match prF fs fr with
     | some x => match prH bs hp with
       | some y => F x y k
       | none => G st k
     | none => G st k
   | false => G st k
theorem LPc_eq (n0 : Nat) (fs : List (Nat × Sl)) (bs : List (Nat × Sb)) (F : FV fs → HV bs → (Ex → St → Option R) → Option R) (G : St → (Ex → St → Option R) → Option R) (KR : St → Option R)
   (h : ∀ x y k, (∀ st, k .ret st = KR st) → G ⟨n0, unF fs x, unH bs y⟩ k = F x y k) (G' : St → (Ex → St → Option R) → Option R) (st : St) (k : Ex → St → Option R) (hk : ∀ st, k .ret st = KR st) (hG : G' st k = G st k) : LPc n0 fs bs F G' st k = G st k := by
 obtain ⟨n, fr, hp⟩ := st
 unfold LPc
 dsimp only
 split
 · rename_i hn
   have := Nat.eq_of_beq_eq_true hn
   subst this
   split
   · rename_i x hx
     split
     · rename_i y hy
       rw [← h x y k hk, prF_un fs fr x hx, prH_un bs hp y hy]
     · exact hG
   · exact hG
 · exact hG
noncomputable def execL (LP : Nat → Code → St → (Ex → St → Option R) → Option R) (E : Env) (c : Code) : Nat → St → (Ex → St → Option R) → Option R :=
 Code.rec (motive := fun _ => Nat → St → (Ex → St → Option R) → Option R)
   (fun _ st k => k .normal st)
   (fun id ops draw _ st k => match draw with
     | false => opsD E ops.toList ops.toList st (k .normal)
     | true => match ops.toList.all (quietOp E) && Region.lexB .any ops with
       | true => opsD E ops.toList ops.toList st (k .normal)
       | false => match Region.noSelect ops with
         | true => drawX E ops (E.hint (100000 + id)) st (k .normal)
         | false => none)
   (fun _ _ iha ihb i st k => iha i st fun e st => match e with
     | .normal => ihb i st k
     | .exit j => k (.exit j) st
     | .ret => k .ret st)
   (fun c _ _ iht ihe i st k => match st.ev c with
     | .v .bool c => br c (iht i st k) (ihe i st k)
     | .bl true => iht i st k
     | .bl false => ihe i st k
     | _ => none)
   (fun id _ ih _ st k => ih id st fun e st => match e with
     | .normal => k .normal st
     | .exit j => if j = id then k .normal st else k (.exit j) st
     | .ret => k .ret st)
   (fun c _ i st k => st.headK (E.hint i) fun st => LP i c st k)
   (fun _ _ _ _ _ _ _ _ _ => none)
   (fun id _ st k => k (.exit id) st)
   (fun _ _ _ _ _ => none)
   (fun _ _ _ _ => none)
   (fun _ _ _ _ => none)
   (fun _ st k => k .ret st)
   (fun _ _ _ _ => none) c
noncomputable def loops (c : Code) : Nat → List (Nat × Code) :=
 Code.rec (motive := fun _ => Nat → List (Nat × Code)) (fun _ => []) (fun _ _ _ _ => []) (fun _ _ a b i => a i ++ b i) (fun _ _ _ a b i => a i ++ b i)
   (fun id _ a _ => a id) (fun c a i => (i, c) :: a i) (fun _ _ _ _ _ _ _ => []) (fun _ _ => []) (fun _ _ _ => []) (fun _ _ => []) (fun _ _ => []) (fun _ => []) (fun _ _ => []) c
def LoopsOk (LP : Nat → Code → St → (Ex → St → Option R) → Option R) (E : Env) (N : Nat) (KR : St → Option R) : List (Nat × Code) → Prop
 | [] => True
 | p :: l => (∀ st k, (∀ st, k .ret st = KR st) → LP p.1 p.2 st k = iter (E.hint p.1) (exec E N p.2 p.1) N st k) ∧ LoopsOk LP E N KR l
theorem LoopsOk.left {LP : Nat → Code → St → (Ex → St → Option R) → Option R} {E : Env} {N : Nat} {KR : St → Option R} : ∀ {l l' : List (Nat × Code)}, LoopsOk LP E N KR (l ++ l') → LoopsOk LP E N KR l
 | [], _, _ => trivial
 | _ :: _, _, h => ⟨h.1, LoopsOk.left h.2⟩
theorem LoopsOk.right {LP : Nat → Code → St → (Ex → St → Option R) → Option R} {E : Env} {N : Nat} {KR : St → Option R} : ∀ {l l' : List (Nat × Code)}, LoopsOk LP E N KR (l ++ l') → LoopsOk LP E N KR l'
 | [], _, h => h
 | _ :: l, _, h => LoopsOk.right (l := l) h.2
theorem execL_eq (LP : Nat → Code → St → (Ex → St → Option R) → Option R) (E : Env) (N : Nat) (KR : St → Option R) (c : Code) : ∀ (i : Nat), LoopsOk LP E N KR (loops c i) →
   ∀ (st : St) (k : Ex → St → Option R), (∀ st, k .ret st = KR st) → execL LP E c i st k = exec E N c i st k := by
 induction c with
 | seq a b iha ihb =>
   intro i h st k hk
   show execL LP E a i st _ = exec E N a i st _
   have e : (fun e st => match e with | .normal => execL LP E b i st k | .exit j => k (.exit j) st | .ret => k .ret st : Ex → St → Option R) = (fun e st => match e with | .normal => exec E N b i st k | .exit j => k (.exit j) st | .ret => k .ret st) := by
     funext e st
     cases e with
     | normal => exact ihb i (LoopsOk.right (l := loops a i) h) st k hk
     | exit j => rfl
     | ret => rfl
   exact (congrArg (execL LP E a i st) e).trans (iha i (LoopsOk.left h) st _ hk)
 | cond o a b iha ihb =>
   intro i h st k hk
   show (match st.ev o with
     | .v .bool c => br c (execL LP E a i st k) (execL LP E b i st k)
     | .bl true => execL LP E a i st k
     | .bl false => execL LP E b i st k
     | _ => none) = (match st.ev o with
     | .v .bool c => br c (exec E N a i st k) (exec E N b i st k)
     | .bl true => exec E N a i st k
     | .bl false => exec E N b i st k
     | _ => none)
   rw [iha i (LoopsOk.left h) st k hk, ihb i (LoopsOk.right (l := loops a i) h) st k hk]
 | block id c ih =>
   intro i h st k hk
   exact ih id h st _ hk
 | loop c ih =>
   intro i h st k hk
   show st.headK (E.hint i) (fun st => LP i c st k) = st.headK (E.hint i) (fun st => iter (E.hint i) (exec E N c i) N st k)
   rw [headK_eq, headK_eq]
   exact h.1 _ k hk
 | _ => intros; rfl
noncomputable def roundK (h : Hint) (I : St → Option R) (KX : Nat → St → Option R) (KR : St → Option R) : Ex → St → Option R := fun e st => match e with
 | .normal => st.headK h I
 | .exit j => st.tailK h (KX j)
 | .ret => KR st
theorem iter_link {S : Type} (h : Hint) (b b' : St → (Ex → St → Option R) → Option R) (KR : St → Option R) (hb : ∀ st k, (∀ st, k .ret st = KR st) → b' st k = b st k) (HD : S → St) (k : Ex → St → Option R)
   (hk : ∀ st, k .ret st = KR st) (T : (S → Option R) → S → Option R) (L : Nat → S → Option R) (h0 : ∀ s, L 0 s = none) (hs : ∀ n s, L (n + 1) s = T (L n) s)
   (step : ∀ I s, b' (HD s) (roundK h I (fun j => k (.exit j)) KR) = T (fun s => I (HD s)) s) : ∀ n s, iter h b n (HD s) k = L n s := by
 intro n
 induction n with
 | zero => intro s; rw [h0]; rfl
 | succ n ih =>
   intro s
   have e : (fun e st => match e with | .normal => st.headK h fun st => iter h b n st k | .exit j => st.tailK h (k (.exit j)) | .ret => k .ret st : Ex → St → Option R) = roundK h (fun st => iter h b n st k) (fun j => k (.exit j)) KR := by
     funext e st
     cases e with
     | normal => rfl
     | exit j => rfl
     | ret => exact hk st
   have e2 : (fun s => iter h b n (HD s) k) = L n := funext ih
   exact (congrArg (b (HD s)) e).trans ((hb _ _ fun _ => rfl).symm.trans ((step _ s).trans ((congrArg (fun f => T f s) e2).trans (hs n s).symm)))
end
noncomputable def runL (E : Env) (f : Func) (F : AF) (pack : SV F.rs → BV F.cs → F.R) (LP : Nat → Code → St → (Ex → St → Option F.R) → Option F.R) (x : SV F.ps) (y : BV F.bs) : Option F.R :=
 match f.body, Nat.ble F.ps.length f.ntmps, Nat.ble F.bs.length 1000 with
 | some c, true, true => amapK id (start f F.ps F.bs x y).fr fun fr => amapBK id (start f F.ps F.bs x y).hp fun hp => execL LP E c 0 ⟨f.ntmps, fr, hp⟩ fun e st => match e with
   | .exit _ => none
   | .normal => resD E f F pack st
   | .ret => resD E f F pack st
 | _, _, _ => none
theorem runL_eq (E : Env) (N : Nat) (f : Func) (F : AF) (pack : SV F.rs → BV F.cs → F.R) (LP : Nat → Code → St → (Ex → St → Option F.R) → Option F.R) (h : LoopsOk LP E N (resD E f F pack) (loops (bodyOf f) 0)) (x : SV F.ps) (y : BV F.bs) :
   runD E N f F pack x y = runL E f F pack LP x y := by
 unfold runD runL
 unfold bodyOf at h
 cases hb : f.body with
 | none => rfl
 | some c =>
   rw [hb] at h
   cases Nat.ble F.ps.length f.ntmps <;> cases Nat.ble F.bs.length 1000 <;> first | rfl | skip
   simp only [amapK_eq, amapBK_eq]
   exact (execL_eq LP E N (resD E f F pack) c 0 h _ _ fun _ => rfl).symm
end Go.Proofs.YtahjncefiegflaaGreatDoor


/- The package variable that is read on the way, and shared words. -/
namespace Go.Proofs.YtahjncefiegflaaGreatDoor
set_option linter.unusedVariables false
set_option linter.unusedSimpArgs false
open Go Go.RowKit
abbrev Str := List UInt8
theorem br_ite {R : Type} [BothC R] (c : Bool) (x y : R) : br c (some x) (some y) = some (if c = true then x else y) := by cases c <;> simp
def GW (w : World) : Prop := ∃ m : Int, w.cell? ⟨0, 0, none⟩ = some (.int .i64 m)
def B0G : Nat := 0 + 1
theorem GW_stable (w w' : World) (X : Nat → Prop) (h : GW w) (hX : ExtX X w w') (hB : ∀ b, X b → B0G ≤ b) : GW w' := by
 obtain ⟨m, h⟩ := h
 refine ⟨m, ?_⟩
 have hlt := World.block_lt_of_cell? w _ h
 rw [cell_of_block (hX.block _ hlt fun hx => absurd (hB _ hx) (by unfold B0G; exact Nat.not_succ_le_self _))]
 exact h
theorem GW_size {w : World} (h : GW w) : B0G ≤ w.heap.size := by
 obtain ⟨m, h⟩ := h
 exact World.block_lt_of_cell? w _ h
abbrev noneAF (ts : List Sl) : AF := { ps := ts, bs := [], rs := [], cs := [], R := Unit, out := fun _ => ((), ()), f := fun _ _ => none }
theorem noneAF_sound {P : Program} {G : World → Prop} {B0 : Nat} {f : FuncId} (hcall : ∀ (args : Array Value) (w : World), (callFunc f args).run P w = .ok (.enter f args) w) (ts : List Sl) : Sound P G B0 f (noneAF ts) := ⟨hcall, fun _ _ _ _ _ _ _ _ _ _ h => by cases h⟩
theorem Sound.never {P : Program} {G : World → Prop} {B0 : Nat} {f : FuncId} {F : AF} (hcall : ∀ (args : Array Value) (w : World), (callFunc f args).run P w = .ok (.enter f args) w) (h : ∀ x y, F.f x y = none) : Sound P G B0 f F :=
 ⟨hcall, fun _ _ _ _ x y _ _ _ _ h' => by rw [h x y] at h'; cases h'⟩
theorem Sound.congr {P : Program} {G : World → Prop} {B0 : Nat} {f : FuncId} {ps bs rs cs} {R : Type} [BothC R] {out : R → SV rs × BV cs} {F F' : SV ps → BV bs → Option R} (h : Sound P G B0 f ⟨ps, bs, rs, cs, R, out, F⟩) (e : ∀ x y, F x y = F' x y) : Sound P G B0 f ⟨ps, bs, rs, cs, R, out, F'⟩ := by
 have : F = F' := funext fun x => funext fun y => e x y
 rw [← this]; exact h
end Go.Proofs.YtahjncefiegflaaGreatDoor


/- More words for memory: a slice whose elements are read by a relation; making room. No program is in sight here. -/
namespace Go.Proofs.YtahjncefiegflaaGreatDoor
open Go Go.RowKit
def Stop (p : Prop) : Prop := p
theorem stop {p : Prop} (h : p) : Stop p := h
def SL {α : Type} (w : World) (sz : Nat) (R : List Value → α → Prop) (v : Value) (L : List α) : Prop :=
 ∃ A c, v = .slice A L.length c ∧ L.length ≤ c ∧ c ≤ maxLen ∧ ∀ i (h : i < L.length), ∃ ad vs, A = some ad ∧ vs.length = sz ∧ R vs L[i] ∧ ∀ j u, vs[j]? = some u → w.cell? (ad.add (i * sz + j)) = some u
theorem SL.ext {α : Type} {w w' : World} {sz : Nat} {R R' : List Value → α → Prop} {v : Value} {L : List α} (h : SL w sz R v L) (hE : Ext w w') (hR : ∀ vs x, R vs x → R' vs x) : SL w' sz R' v L := by
 obtain ⟨A, c, e, h1, h2, hr⟩ := h
 refine ⟨A, c, e, h1, h2, fun i hi => ?_⟩
 obtain ⟨ad, vs, a1, a2, a3, a4⟩ := hr i hi
 exact ⟨ad, vs, a1, a2, hR _ _ a3, fun j u hu => hE.cell (a4 j u hu)⟩
theorem SL.nil {α : Type} (w : World) (sz : Nat) (R : List Value → α → Prop) : SL w sz R (.slice none 0 0) [] := ⟨none, 0, rfl, Nat.le_refl _, Nat.zero_le _, fun i h => absurd h (by simp)⟩
def BsE (w : World) (vs : List Value) (l : List UInt8) : Prop := ∃ v, vs = [v] ∧ Bs w v l
theorem BsE.ext {w w' : World} {vs : List Value} {l : List UInt8} (h : BsE w vs l) (hE : Ext w w') : BsE w' vs l := let ⟨v, e, h⟩ := h; ⟨v, e, h.ext hE⟩
def BBs (w : World) (v : Value) (L : List (List UInt8)) : Prop := SL w 1 (BsE w) v L
theorem BBs.ext {w w' : World} {v : Value} {L : List (List UInt8)} (h : BBs w v L) (hE : Ext w w') : BBs w' v L := SL.ext h hE fun _ _ h => h.ext hE
theorem SL.of_own {α : Type} {w : World} {base : Nat} {e : TypeId} {v : Value} {xs : List Value} {R : List Value → α → Prop} {L : List α} (h : w.ownsRow base e 1 v L.length xs) (hR : ∀ i (h : i < L.length) u, xs[i]? = some u → R [u] L[i]) : SL w 1 R v L := by
 have hn : xs.length = L.length := by have := h.1; omega
 obtain ⟨A, c, rfl, h1, h2, hr⟩ := Row.of_own' h
 refine ⟨A, c, rfl, h1, h2, fun i hi => ?_⟩
 obtain ⟨ad, rfl, hc⟩ := hr.at_ (List.getElem?_eq_getElem (show i < xs.length by omega))
 refine ⟨ad, [xs[i]'(by omega)], rfl, rfl, hR i hi _ (List.getElem?_eq_getElem _), fun j u hu => ?_⟩
 match j, hu with
 | 0, hu => simp at hu; subst hu; simpa using hc
theorem BBs.at_ {w : World} {A : Option Addr} {n c : Nat} {L : List (List UInt8)} (h : BBs w (.slice A n c) L) {i : Nat} (hi : i < L.length) : ∃ ad B d, A = some ad ∧ w.cell? (ad.add i) = some (.slice B (L[i]'hi).length d) ∧ (L[i]'hi).length ≤ d ∧ d ≤ maxLen ∧ Row w B (bcs (L[i]'hi)) := by
 obtain ⟨A', c', e, _, _, hr⟩ := h
 obtain ⟨ad, vs, a1, a2, ⟨v, rfl, ⟨B, d, rfl, h1, h2, h3⟩⟩, a4⟩ := hr i hi
 injection e with e1 e2 e3
 subst e1
 exact ⟨ad, B, d, a1, by simpa using a4 0 _ rfl, h1, h2, h3⟩
theorem run_app_make {P : Program} (w0 w : World) (t ti ty e : TypeId) (size bytes : Nat) (hT : ElemT P t e size bytes) (hti : P.underlying ti = some (.int .i64)) (hE : Ext w0 w) (n : Nat) (hn : 0 < n) (hb : n * bytes ≤ 140737488355328) :
   ∃ cap w', (Builtin.append_ #[t, ti] ty #[.slice none 0 0, .int .i64 n]).run P w = .ok (.slice (some ⟨w.heap.size, 0, none⟩) n cap) w' ∧ n ≤ cap ∧ w'.ownsRow w0.heap.size e size (.slice (some ⟨w.heap.size, 0, none⟩) 0 cap) 0 [] ∧ Ext w0 w' := by
 obtain ⟨ht, hsz, hbp, i, z, hi, hz, hsize, hby, hzs⟩ := hT
 subst hsize
 subst hby
 have hnb : n ≤ n * i.bytes := Nat.le_mul_of_pos_right _ hbp
 have hw : IntKind.i64.wrap (n : Int) = n := by rw [IntKind.wrap_i64]; omega
 have h1 : ¬ ((n : Int) < 0) := by omega
 have h2 : ¬ (((n : Int) * (i.bytes : Int)) > 2 ^ 48) := by
   have : ((n : Int) * (i.bytes : Int)) = ((n * i.bytes : Nat) : Int) := by norm_cast
   omega
 have h3 : ¬ (Builtin.nextslicecap n 0 * i.bytes > 2 ^ 48) := by
   have : Builtin.nextslicecap n 0 = n := by unfold Builtin.nextslicecap; rw [if_pos (by omega)]
   rw [this]; omega
 have hm63 : n ≤ maxLen := by unfold maxLen; omega
 have hn0 : n ≠ 0 := by omega
 have h63' : ¬ (9223372036854775807 < (n : Int)) := by omega
 have h2' : ¬ (281474976710656 < (n : Int) * (i.bytes : Int)) := h2
 have h48' : ¬ (281474976710656 < Builtin.nextslicecap n 0 * i.bytes) := h3
 have hge := grownCap_ge w n 0 e
 have hne : ¬ (n * i.size = 0) := by have := Nat.mul_pos hn hsz; omega
 refine ⟨grownCap w n 0 e, w.drew.alloc (.cells (Builtin.zeroCells z.cells n ++ Builtin.zeroCells z.cells (grownCap w n 0 e - n)) e), ?_, hge, ?_, hE.drew.alloc _⟩
 · simp [Builtin.append_, run_underlying ht, run_underlying hti, sizeOf, typeInfo, hi, asInt, asIntOf, hw, h1, h2', h48', Builtin.firstCells, hne, zeroValue, hz, hn0, h63', Question.forced, newRow, grownCap]
 · refine ⟨by simp, .inr ⟨_, _, _, rfl, hE.size, heap_alloc_new w.drew _, Nat.zero_le _, grownCap_le_maxLen w n 0 e hm63, ?_, by simp⟩⟩
   simp only [Array.size_append, size_zeroCells, hzs, ← Nat.add_mul]
   congr 1
   omega
theorem wp_app_make {P : Program} {w0 w : World} {ops : Array Oper} {rest : List Oper} {o : Oper} {a : Act} {Q : Exit → Act → World → Prop} (hgd : o.guard = none) {s x : Operand}
   {t ti e : TypeId} {size bytes : Nat} (hT : ElemT P t e size bytes) (hti : P.underlying ti = some (.int .i64))
   (ho : o.op = .call { callee := .builtin .append, args := #[s, x], argTypes := #[t, ti] })
   {n : Nat} (hs : a.eval s = .slice none 0 0) (hx : a.eval x = .int .i64 n) (hE : Ext w0 w) (hn : 0 < n) (hb : n * bytes ≤ 140737488355328)
   (h : ∀ cap w', n ≤ cap → w'.ownsRow w0.heap.size e size (.slice (some ⟨w.heap.size, 0, none⟩) 0 cap) 0 [] → Ext w0 w' → wpList P ops Q rest (a.put o.dst (.slice (some ⟨w.heap.size, 0, none⟩) n cap)) w') : wpList P ops Q (o :: rest) a w := by
 refine wpList_plain hgd fun K hK => ?_
 obtain ⟨cap, w', hrun, h2, h3, h4⟩ := run_app_make (P := P) w0 w t ti o.type e size bytes hT hti hE n hn hb
 unfold Oper.wp execOp
 simp only [ho, resolve, invoke, builtin, Sem.run_bind, Sem.run_pure, Result.andThen_ok, List.map_toArray, List.map_cons, List.map_nil, hs, hx, hrun]
 exact hK _ _ (h cap w' h2 h3 h4)
end Go.Proofs.YtahjncefiegflaaGreatDoor


/- Structs of plain fields are compared as the machine compares them. -/
namespace Go.Proofs.YtahjncefiegflaaGreatDoor
set_option linter.unusedVariables false
set_option linter.unusedSimpArgs false
open Go Go.RowKit
inductive Sc (P : Program) : Ty → TypeId → Prop where
 | u8 {T : TypeId} : P.underlying T = some (.int .u8) → Sc P .u8 T
 | int {T : TypeId} {k : IntKind} : P.underlying T = some (.int k) → Sc P (.int k) T
 | bool {T : TypeId} : P.underlying T = some .bool → Sc P .bool T
 | str {T : TypeId} : P.underlying T = some .string → Sc P .str T
inductive FlatF (P : Program) : Ty → List Field → Nat → Prop where
 | nil {o : Nat} : FlatF P .un [] o
 | one {t : Ty} {f : Field} {o : Nat} : f.offset = o → f.name ≠ "_" → Sc P t f.type → FlatF P t [f] o
 | single {t : Ty} {f : Field} {o : Nat} : f.offset = o → f.name ≠ "_" → Sc P t f.type → FlatF P (.pr t .un) [f] o
 | cons {a b : Ty} {f : Field} {fs : List Field} {o : Nat} : f.offset = o → f.name ≠ "_" → Sc P a f.type → FlatF P b fs (o + 1) → FlatF P (.pr a b) (f :: fs) o
section
variable {P : Program} {w : World}
theorem Sc.sz {t : Ty} {T : TypeId} (h : Sc P t T) : t.sz = 1 := by cases h <;> rfl
theorem Sc.cell {t : Ty} {T : TypeId} (h : Sc P t T) (x : t.den) : ∃ c, cellsOf t x = [c] := by cases h <;> exact ⟨_, rfl⟩
theorem Sc.isAgg {t : Ty} {T : TypeId} (h : Sc P t T) : (Go.isAgg T).run P w = .ok false w := by
 cases h <;> rename_i hu <;> simp [Go.isAgg, run_underlying hu]
theorem Sc.eq {t : Ty} {T : TypeId} (h : Sc P t T) (d : Nat) {x y : t.den} {a b : Value} (ha : cellsOf t x = [a]) (hb : cellsOf t y = [b]) : (Op.equalIn (d + 1) T a b).run P w = .ok (eqb t x y) w := by
 cases h with
 | u8 hu =>
   have ha' : [Value.int .u8 (UInt8.toNat x)] = [a] := ha
   have hb' : [Value.int .u8 (UInt8.toNat y)] = [b] := hb
   injection ha' with ha'; injection hb' with hb'
   subst ha'; subst hb'
   rw [run_equalIn_int w d _ _ _ _ _ hu]
   congr 1
   show decide _ = decide _
   exact decide_eq_decide.2 ⟨fun h => UInt8.toNat_inj.1 (by omega), fun h => by rw [h]⟩
 | int hu =>
   have ha' : [Value.int _ x] = [a] := ha
   have hb' : [Value.int _ y] = [b] := hb
   injection ha' with ha'; injection hb' with hb'
   subst ha'; subst hb'
   rw [run_equalIn_int w d _ _ _ _ _ hu]
   rfl
 | bool hu =>
   have ha' : [Value.bool x] = [a] := ha
   have hb' : [Value.bool y] = [b] := hb
   injection ha' with ha'; injection hb' with hb'
   subst ha'; subst hb'
   rw [run_equalIn_bool' w d _ _ _ hu]
   rfl
 | str hu =>
   have ha' : [Value.string ⟨List.toArray x⟩] = [a] := ha
   have hb' : [Value.string ⟨List.toArray y⟩] = [b] := hb
   injection ha' with ha'; injection hb' with hb'
   subst ha'; subst hb'
   rw [run_equalIn_string w d _ _ _ hu, Lib.toList_data, Lib.toList_data]
   rfl
theorem run_part_at {T : TypeId} {xs : Array Value} {o : Nat} {c : Value} (h : (Go.isAgg T).run P w = .ok false w) (hc : xs[o]? = some c) : (part T xs o).run P w = .ok c w := by
 simp [part, h, hc]
theorem flat_eq (d : Nat) : ∀ (fs : List Field) (t : Ty) (o : Nat) (xs ys : Array Value) (x y : t.den), FlatF P t fs o → (xs.toList.drop o).take t.sz = cellsOf t x → (ys.toList.drop o).take t.sz = cellsOf t y →
   (Op.eqFields (d + 1) xs ys fs).run P w = .ok (eqb t x y) w := by
 have hone : ∀ (xs : Array Value) (o : Nat) (c : Value) (n : Nat) (l : List Value), (xs.toList.drop o).take (1 + n) = c :: l → xs[o]? = some c ∧ (xs.toList.drop (o + 1)).take n = l := fun xs o c n l h => by
   have hc : xs.toList.drop o = c :: xs.toList.drop (o + 1) := by
     cases hd : xs.toList.drop o with
     | nil => rw [hd] at h; simp at h
     | cons e r =>
       rw [hd, Nat.add_comm, List.take_succ_cons] at h
       injection h with h1 h2
       rw [h1]
       congr 1
       have := congrArg (List.drop 1) hd
       rw [List.drop_drop] at this
       simpa [Nat.add_comm] using this.symm
   refine ⟨?_, ?_⟩
   · have := congrArg (fun l => l[0]?) hc
     simpa using this
   · rw [hc, Nat.add_comm, List.take_succ_cons] at h
     injection h
 intro fs
 induction fs with
 | nil =>
   intro t o xs ys x y hf _ _
   cases hf
   simp [Op.eqFields, eqb]
 | cons f fs ih =>
   intro t o xs ys x y hf hx hy
   have hstep : ∀ (a : Ty) (xa ya : a.den) (ca cb : Value) (r : Bool), f.offset = o → f.name ≠ "_" → Sc P a f.type → cellsOf a xa = [ca] → cellsOf a ya = [cb] → xs[o]? = some ca → ys[o]? = some cb →
       (Op.eqFields (d + 1) xs ys fs).run P w = .ok r w → (Op.eqFields (d + 1) xs ys (f :: fs)).run P w = .ok (eqb a xa ya && r) w := fun a xa ya ca cb r ho hn hs h1 h2 h3 h4 h5 => by
     subst ho
     simp only [Op.eqFields, hn, ne_eq, not_false_eq_true, if_true, Sem.run_bind, run_part_at hs.isAgg h3, run_part_at hs.isAgg h4, hs.eq d h1 h2, Result.andThen_ok]
     cases eqb a xa ya with
     | true => simpa using h5
     | false => simp
   cases hf with
   | one ho hn hs =>
     obtain ⟨ca, h1⟩ := hs.cell x
     obtain ⟨cb, h2⟩ := hs.cell y
     rw [hs.sz, h1] at hx
     rw [hs.sz, h2] at hy
     have := hstep t x y ca cb true ho hn hs h1 h2 (hone xs o ca 0 [] hx).1 (hone ys o cb 0 [] hy).1 (by simp [Op.eqFields])
     simpa using this
   | single ho hn hs =>
     rename_i a
     obtain ⟨xa, u⟩ := x
     obtain ⟨ya, v⟩ := y
     obtain ⟨ca, h1⟩ := hs.cell xa
     obtain ⟨cb, h2⟩ := hs.cell ya
     have hx' : (xs.toList.drop o).take (a.sz + 0) = cellsOf a xa ++ [] := hx
     have hy' : (ys.toList.drop o).take (a.sz + 0) = cellsOf a ya ++ [] := hy
     rw [hs.sz, h1] at hx'
     rw [hs.sz, h2] at hy'
     exact hstep a xa ya ca cb true ho hn hs h1 h2 (hone xs o ca 0 [] hx').1 (hone ys o cb 0 [] hy').1 (by simp [Op.eqFields])
   | @cons a b _ _ _ ho hn hs hr =>
     obtain ⟨xa, xb⟩ := x
     obtain ⟨ya, yb⟩ := y
     obtain ⟨ca, h1⟩ := hs.cell xa
     obtain ⟨cb, h2⟩ := hs.cell ya
     have hx' : (xs.toList.drop o).take (a.sz + b.sz) = cellsOf a xa ++ cellsOf b xb := hx
     have hy' : (ys.toList.drop o).take (a.sz + b.sz) = cellsOf a ya ++ cellsOf b yb := hy
     rw [hs.sz, h1] at hx'
     rw [hs.sz, h2] at hy'
     obtain ⟨k1, k2⟩ := hone xs o ca b.sz _ hx'
     obtain ⟨k3, k4⟩ := hone ys o cb b.sz _ hy'
     exact hstep a xa ya ca cb _ ho hn hs h1 h2 k1 k3 (ih b (o + 1) xs ys xb yb hr k2 k4)
theorem FlatF.len {t : Ty} {fs : List Field} {o : Nat} (h : FlatF P t fs o) (x : t.den) : (cellsOf t x).length = t.sz := by
 induction h with
 | nil => rfl
 | one _ _ hs => obtain ⟨c, hc⟩ := hs.cell x; rw [hc, hs.sz]; rfl
 | single _ _ hs =>
   obtain ⟨xa, u⟩ := x
   obtain ⟨c, hc⟩ := hs.cell xa
   show (cellsOf _ xa ++ []).length = _ + 0
   rw [hc, hs.sz]; rfl
 | cons _ _ hs _ ih =>
   obtain ⟨xa, xb⟩ := x
   obtain ⟨c, hc⟩ := hs.cell xa
   show (cellsOf _ xa ++ cellsOf _ xb).length = _ + _
   rw [List.length_append, hc, hs.sz, ih xb]; rfl
theorem CmpOk.flat {T : TypeId} {t : Ty} {fs : Array Field} (hc : flatCmp t = true) (ha : t.isAgg = true) (hu : P.underlying T = some (.struct fs)) (hp : P.stoodInHeld T = false) (hg : P.eqGuardType P.depth T = false) (hf : FlatF P t fs.toList 0) : CmpOk P T t := by
 have hfo : P.fieldsOf T = fs := by unfold Program.fieldsOf; rw [hu]
 have heq : ∀ (x y : t.den) (w : World), (Op.equalIn 10000 T (.agg (cellsOf t x).toArray) (.agg (cellsOf t y).toArray)).run P w = .ok (eqb t x y) w := fun x y w => by
   rw [run_equalIn_agg w 9999 T _ _ (by rw [hfo]; exact hu) hp, hfo]
   refine flat_eq 9998 fs.toList t 0 _ _ x y hf ?_ ?_
   · rw [List.drop_zero, List.take_of_length_le (by simp [hf.len x])]
   · rw [List.drop_zero, List.take_of_length_le (by simp [hf.len y])]
 refine ⟨hc, ha, fun x y ox oy w => ⟨?_, ?_⟩⟩
 · simp only [Sem.run_bind, run_eqGuard_agg w _ _ _ _ _ _ hg, Result.andThen_ok, run_eql_struct, heq]
 · simp only [Sem.run_bind, run_eqGuard_agg w _ _ _ _ _ _ hg, Result.andThen_ok, run_neq_struct, heq]
end
end Go.Proofs.YtahjncefiegflaaGreatDoor


/- When two states of the machine are the same: told by reckoning. -/
namespace Go.Proofs.YtahjncefiegflaaGreatDoor
set_option linter.unusedVariables false
set_option linter.unusedSimpArgs false
open Go
def beqL {α : Type} (f : α → α → Bool) : List α → List α → Bool
 | [], [] => true
 | a :: l, b :: m => match f a b with | true => beqL f l m | false => false
 | _, _ => false
theorem beqL_eq {α : Type} {f : α → α → Bool} (hf : ∀ a b, f a b = true → a = b) : ∀ {l m : List α}, beqL f l m = true → l = m
 | [], [], _ => rfl
 | a :: l, b :: m, h => by
   unfold beqL at h
   split at h
   · rename_i h1; rw [hf a b h1, beqL_eq hf h]
   · cases h
 | [], _ :: _, h => by cases h
 | _ :: _, [], h => by cases h
def beqN (a b : Nat) : Bool := Nat.beq a b
theorem beqN_eq (a b : Nat) (h : beqN a b = true) : a = b := Nat.eq_of_beq_eq_true h
def beq8 (a b : UInt8) : Bool := Nat.beq a.toNat b.toNat
theorem beq8_eq (a b : UInt8) (h : beq8 a b = true) : a = b := UInt8.toNat_inj.1 (Nat.eq_of_beq_eq_true h)
def beqS (a b : List UInt8) : Bool := beqL beq8 a b
theorem beqS_eq (a b : List UInt8) (h : beqS a b = true) : a = b := beqL_eq beq8_eq h
def beqI (a b : Int) : Bool := decide (a = b)
theorem beqI_eq (a b : Int) (h : beqI a b = true) : a = b := of_decide_eq_true h
def beqB (a b : Bool) : Bool := match a, b with
 | true, true => true
 | false, false => true
 | _, _ => false
theorem beqB_eq (a b : Bool) (h : beqB a b = true) : a = b := by cases a <;> cases b <;> first | rfl | cases h
def beqO {α : Type} (f : α → α → Bool) : Option α → Option α → Bool
 | none, none => true
 | some a, some b => f a b
 | _, _ => false
theorem beqO_eq {α : Type} {f : α → α → Bool} (hf : ∀ a b, f a b = true → a = b) : ∀ {l m : Option α}, beqO f l m = true → l = m
 | none, none, _ => rfl
 | some a, some b, h => by rw [hf a b h]
 | none, some _, h => by cases h
 | some _, none, h => by cases h
theorem and_tt {a b : Bool} (h : (a && b) = true) : a = true ∧ b = true := by simpa using h
mutual
def GExpr.same : GExpr → GExpr → Bool
 | .mk a b c d e, .mk a' b' c' d' e' => beqI a a' && (beqS b b' && (beqI c c' && (beqL beqS d d' && GExpr.sames e e')))
def GExpr.sames : List GExpr → List GExpr → Bool
 | [], [] => true
 | x :: l, y :: m => GExpr.same x y && GExpr.sames l m
 | _, _ => false
end
mutual
theorem GExpr.same_eq : ∀ x y, GExpr.same x y = true → x = y
 | .mk a b c d e, .mk a' b' c' d' e', h => by
   unfold GExpr.same at h
   obtain ⟨h1, h⟩ := and_tt h
   obtain ⟨h2, h⟩ := and_tt h
   obtain ⟨h3, h⟩ := and_tt h
   obtain ⟨h4, h⟩ := and_tt h
   rw [beqI_eq _ _ h1, beqS_eq _ _ h2, beqI_eq _ _ h3, beqL_eq beqS_eq h4, GExpr.sames_eq _ _ h]
theorem GExpr.sames_eq : ∀ x y, GExpr.sames x y = true → x = y
 | [], [], _ => rfl
 | x :: l, y :: m, h => by
   unfold GExpr.sames at h
   obtain ⟨h1, h⟩ := and_tt h
   rw [GExpr.same_eq _ _ h1, GExpr.sames_eq _ _ h]
 | [], _ :: _, h => by unfold GExpr.sames at h; cases h
 | _ :: _, [], h => by unfold GExpr.sames at h; cases h
end
mutual
def GPart.same : GPart → GPart → Bool
 | .mk a b c, .mk a' b' c' => GExpr.same a a' && (beqI b b' && GPart.sames c c')
def GPart.sames : List GPart → List GPart → Bool
 | [], [] => true
 | x :: l, y :: m => GPart.same x y && GPart.sames l m
 | _, _ => false
end
mutual
theorem GPart.same_eq : ∀ x y, GPart.same x y = true → x = y
 | .mk a b c, .mk a' b' c', h => by
   unfold GPart.same at h
   obtain ⟨h1, h⟩ := and_tt h
   obtain ⟨h2, h⟩ := and_tt h
   rw [GExpr.same_eq _ _ h1, beqI_eq _ _ h2, GPart.sames_eq _ _ h]
theorem GPart.sames_eq : ∀ x y, GPart.sames x y = true → x = y
 | [], [], _ => rfl
 | x :: l, y :: m, h => by
   unfold GPart.sames at h
   obtain ⟨h1, h⟩ := and_tt h
   rw [GPart.same_eq _ _ h1, GPart.sames_eq _ _ h]
 | [], _ :: _, h => by unfold GPart.sames at h; cases h
 | _ :: _, [], h => by unfold GPart.sames at h; cases h
end
mutual
def GValue.same : GValue → GValue → Bool
 | .mk a b c d e, .mk a' b' c' d' e' => beqI a a' && (beqS b b' && (beqI c c' && (beqL beqS d d' && GValue.sames e e')))
def GValue.sames : List (List UInt8 × GValue) → List (List UInt8 × GValue) → Bool
 | [], [] => true
 | x :: l, y :: m => GValue.samep x y && GValue.sames l m
 | _, _ => false
def GValue.samep : List UInt8 × GValue → List UInt8 × GValue → Bool
 | (a, b), (a', b') => beqS a a' && GValue.same b b'
end
mutual
theorem GValue.same_eq : ∀ x y, GValue.same x y = true → x = y
 | .mk a b c d e, .mk a' b' c' d' e', h => by
   unfold GValue.same at h
   obtain ⟨h1, h⟩ := and_tt h
   obtain ⟨h2, h⟩ := and_tt h
   obtain ⟨h3, h⟩ := and_tt h
   obtain ⟨h4, h⟩ := and_tt h
   rw [beqI_eq _ _ h1, beqS_eq _ _ h2, beqI_eq _ _ h3, beqL_eq beqS_eq h4, GValue.sames_eq _ _ h]
theorem GValue.sames_eq : ∀ x y, GValue.sames x y = true → x = y
 | [], [], _ => rfl
 | x :: l, y :: m, h => by
   unfold GValue.sames at h
   obtain ⟨h1, h⟩ := and_tt h
   rw [GValue.samep_eq _ _ h1, GValue.sames_eq _ _ h]
 | [], _ :: _, h => by unfold GValue.sames at h; cases h
 | _ :: _, [], h => by unfold GValue.sames at h; cases h
theorem GValue.samep_eq : ∀ x y, GValue.samep x y = true → x = y
 | (a, b), (a', b'), h => by
   unfold GValue.samep at h
   obtain ⟨h1, h⟩ := and_tt h
   rw [beqS_eq _ _ h1, GValue.same_eq _ _ h]
end
mutual
def GStmt.same : GStmt → GStmt → Bool
 | .mk a b c d e f g h i, .mk a' b' c' d' e' f' g' h' i' => beqI a a' && (beqS b b' && (beqS c c' && (beqL beqS d d' && (beqL (fun p q => beqS p.1 q.1 && GExpr.same p.2 q.2) e e' && (GExpr.same f f' && (GStmt.sames g g' && (GStmt.sames h h' && beqI i i')))))))
def GStmt.sames : List GStmt → List GStmt → Bool
 | [], [] => true
 | x :: l, y :: m => GStmt.same x y && GStmt.sames l m
 | _, _ => false
end
mutual
theorem GStmt.same_eq : ∀ x y, GStmt.same x y = true → x = y
 | .mk a b c d e f g h i, .mk a' b' c' d' e' f' g' h' i', hh => by
   unfold GStmt.same at hh
   obtain ⟨h1, hh⟩ := and_tt hh
   obtain ⟨h2, hh⟩ := and_tt hh
   obtain ⟨h3, hh⟩ := and_tt hh
   obtain ⟨h4, hh⟩ := and_tt hh
   obtain ⟨h5, hh⟩ := and_tt hh
   obtain ⟨h6, hh⟩ := and_tt hh
   obtain ⟨h7, hh⟩ := and_tt hh
   obtain ⟨h8, h9⟩ := and_tt hh
   have he : e = e' := beqL_eq (fun p q hpq => by
     obtain ⟨k1, k2⟩ := and_tt hpq
     exact Prod.ext (beqS_eq _ _ k1) (GExpr.same_eq _ _ k2)) h5
   rw [beqI_eq _ _ h1, beqS_eq _ _ h2, beqS_eq _ _ h3, beqL_eq beqS_eq h4, he, GExpr.same_eq _ _ h6, GStmt.sames_eq _ _ h7, GStmt.sames_eq _ _ h8, beqI_eq _ _ h9]
theorem GStmt.sames_eq : ∀ x y, GStmt.sames x y = true → x = y
 | [], [], _ => rfl
 | x :: l, y :: m, h => by
   unfold GStmt.sames at h
   obtain ⟨h1, h⟩ := and_tt h
   rw [GStmt.same_eq _ _ h1, GStmt.sames_eq _ _ h]
 | [], _ :: _, h => by unfold GStmt.sames at h; cases h
 | _ :: _, [], h => by unfold GStmt.sames at h; cases h
end
def RC.same : (i : RC) → i.den → i.den → Bool
 | .value => GValue.same
 | .expr => GExpr.same
 | .stmt => GStmt.same
 | .part => GPart.same
theorem RC.same_eq : ∀ (i : RC) (x y : i.den), i.same x y = true → x = y
 | .value => GValue.same_eq
 | .expr => GExpr.same_eq
 | .stmt => GStmt.same_eq
 | .part => GPart.same_eq
def Ty.same : (t : Ty) → t.den → t.den → Bool
 | .u8, x, y => beq8 x y
 | .int _, x, y => beqI x y
 | .bool, x, y => beqB x y
 | .str, x, y => beqS x y
 | .sl t, x, y => beqL t.same x y
 | .pr a b, x, y => a.same x.1 y.1 && b.same x.2 y.2
 | .un, _, _ => true
 | .mp e, x, y => beqL (fun p q => beqS p.1 q.1 && e.same p.2 q.2) x y
 | .ptr t, x, y => t.same x y
 | .np t, x, y => beqO t.same x y
 | .clo _ t, x, y => t.same x y
 | .rc i, x, y => i.same x y
theorem Ty.same_eq : ∀ (t : Ty) (x y : t.den), t.same x y = true → x = y
 | .u8, x, y, h => beq8_eq x y h
 | .int _, x, y, h => beqI_eq x y h
 | .bool, x, y, h => beqB_eq x y h
 | .str, x, y, h => beqS_eq x y h
 | .sl t, x, y, h => beqL_eq t.same_eq h
 | .pr a b, x, y, h => by
   obtain ⟨h1, h2⟩ := and_tt h
   exact Prod.ext (a.same_eq _ _ h1) (b.same_eq _ _ h2)
 | .un, _, _, _ => rfl
 | .mp e, x, y, h => beqL_eq (fun p q hpq => by
     obtain ⟨k1, k2⟩ := and_tt hpq
     exact Prod.ext (beqS_eq _ _ k1) (e.same_eq _ _ k2)) h
 | .ptr t, x, y, h => t.same_eq x y h
 | .np t, x, y, h => beqO_eq t.same_eq h
 | .clo _ t, x, y, h => t.same_eq x y h
 | .rc i, x, y, h => i.same_eq x y h
mutual
def D.same : D → D → Bool
 | .dead, .dead => true
 | .skip, .skip => true
 | .bl a, .bl b => beqB a b
 | .v t x, .v t' y => if h : t = t' then t'.same (h ▸ x) y else false
 | .nilS, .nilS => true
 | .nilP, .nilP => true
 | .row r, .row r' => beqN r r'
 | .elp r s i o, .elp r' s' i' o' => beqN r r' && (beqN s s' && (beqI i i' && beqN o o'))
 | .tl r s i, .tl r' s' i' => beqN r r' && (beqN s s' && beqI i i')
 | .box r o, .box r' o' => beqN r r' && beqN o o'
 | .at_ t x, .at_ t' y => if h : t = t' then t'.same (h ▸ x) y else false
 | .tup b l, .tup b' l' => beqB b b' && D.sames l l'
 | .mref r, .mref r' => beqN r r'
 | .fnc f l, .fnc f' l' => beqN f f' && beqL beqN l l'
 | _, _ => false
def D.sames : List D → List D → Bool
 | [], [] => true
 | x :: l, y :: m => D.same x y && D.sames l m
 | _, _ => false
end
mutual
theorem D.same_eq : ∀ x y, D.same x y = true → x = y
 | .dead, y, h => by cases y <;> first | rfl | (unfold D.same at h; cases h)
 | .skip, y, h => by cases y <;> first | rfl | (unfold D.same at h; cases h)
 | .nilS, y, h => by cases y <;> first | rfl | (unfold D.same at h; cases h)
 | .nilP, y, h => by cases y <;> first | rfl | (unfold D.same at h; cases h)
 | .bl a, y, h => by
   cases y <;> (unfold D.same at h)
   case bl b => rw [beqB_eq _ _ h]
   all_goals cases h
 | .v t x, y, h => by
   cases y <;> (unfold D.same at h)
   case v t' y =>
     split at h
     · rename_i e; subst e; have e2 : x = y := t.same_eq x y h; rw [e2]
     · cases h
   all_goals cases h
 | .row a, y, h => by
   cases y <;> (unfold D.same at h)
   case row b => rw [beqN_eq _ _ h]
   all_goals cases h
 | .elp a b c d, y, h => by
   cases y <;> (unfold D.same at h)
   case elp a' b' c' d' =>
     obtain ⟨h1, h⟩ := and_tt h
     obtain ⟨h2, h⟩ := and_tt h
     obtain ⟨h3, h4⟩ := and_tt h
     rw [beqN_eq _ _ h1, beqN_eq _ _ h2, beqI_eq _ _ h3, beqN_eq _ _ h4]
   all_goals cases h
 | .tl a b c, y, h => by
   cases y <;> (unfold D.same at h)
   case tl a' b' c' =>
     obtain ⟨h1, h⟩ := and_tt h
     obtain ⟨h2, h3⟩ := and_tt h
     rw [beqN_eq _ _ h1, beqN_eq _ _ h2, beqI_eq _ _ h3]
   all_goals cases h
 | .box a b, y, h => by
   cases y <;> (unfold D.same at h)
   case box a' b' =>
     obtain ⟨h1, h2⟩ := and_tt h
     rw [beqN_eq _ _ h1, beqN_eq _ _ h2]
   all_goals cases h
 | .at_ t x, y, h => by
   cases y <;> (unfold D.same at h)
   case at_ t' y =>
     split at h
     · rename_i e; subst e; have e2 : x = y := t.same_eq x y h; rw [e2]
     · cases h
   all_goals cases h
 | .tup a l, y, h => by
   cases y <;> (unfold D.same at h)
   case tup b m =>
     obtain ⟨h1, h2⟩ := and_tt h
     rw [beqB_eq _ _ h1, D.sames_eq _ _ h2]
   all_goals cases h
 | .mref a, y, h => by
   cases y <;> (unfold D.same at h)
   case mref b => rw [beqN_eq _ _ h]
   all_goals cases h
 | .fnc f l, y, h => by
   cases y <;> (unfold D.same at h)
   case fnc g m =>
     obtain ⟨h1, h2⟩ := and_tt h
     rw [beqN_eq _ _ h1, beqL_eq beqN_eq h2]
   all_goals cases h
theorem D.sames_eq : ∀ x y, D.sames x y = true → x = y
 | [], [], _ => rfl
 | x :: l, y :: m, h => by
   unfold D.sames at h
   obtain ⟨h1, h⟩ := and_tt h
   rw [D.same_eq _ _ h1, D.sames_eq _ _ h]
 | [], _ :: _, h => by unfold D.sames at h; cases h
 | _ :: _, [], h => by unfold D.sames at h; cases h
end
def Blk.same : Blk → Blk → Bool
 | .cells l, .cells m => D.sames l m
 | .map e x, .map e' y => if h : e = e' then (Ty.mp e').same (h ▸ x) y else false
 | .row e t b x, .row e' t' b' y => if h : t = t' then beqN e e' && (beqB b b' && (Ty.sl t').same (h ▸ x) y) else false
 | .iter e x c, .iter e' y c' => if h : e = e' then (Ty.mp e').same (h ▸ x) y && beqO (fun p q => beqS p.1 q.1 && e'.same p.2 q.2) (h ▸ c) c' else false
 | _, _ => false
theorem Blk.same_eq (x y : Blk) (h : Blk.same x y = true) : x = y := by
 cases x with
 | cells l =>
   cases y <;> simp only [Blk.same] at h
   case cells m => rw [D.sames_eq _ _ h]
   all_goals first | done | cases h
 | map e x =>
   cases y <;> simp only [Blk.same] at h
   case map e' y =>
     split at h
     · rename_i c; subst c; have e2 : x = y := (Ty.mp e).same_eq x y h; rw [e2]
     · cases h
   all_goals first | done | cases h
 | row e t b x =>
   cases y <;> simp only [Blk.same] at h
   case row e' t' b' y =>
     split at h
     · rename_i c
       subst c
       obtain ⟨h1, h⟩ := and_tt h
       obtain ⟨h2, h3⟩ := and_tt h
       have e2 : x = y := (Ty.sl t).same_eq x y h3
       rw [beqN_eq _ _ h1, beqB_eq _ _ h2, e2]
     · cases h
   all_goals first | done | cases h
 | iter e x c =>
   cases y <;> simp only [Blk.same] at h
   case iter e' y c' =>
     split at h
     · rename_i ee
       subst ee
       obtain ⟨h1, h2⟩ := and_tt h
       have e2 : x = y := (Ty.mp e).same_eq x y h1
       have e3 : c = c' := beqO_eq (fun p q hpq => by
         obtain ⟨k1, k2⟩ := and_tt hpq
         exact Prod.ext (beqS_eq _ _ k1) (e.same_eq _ _ k2)) h2
       rw [e2, e3]
     · cases h
   all_goals first | done | cases h
def St.same (x y : St) : Bool := beqN x.n y.n && (beqL (fun p q => beqN p.1 q.1 && D.same p.2 q.2) x.fr y.fr && beqL (fun p q => beqN p.1 q.1 && Blk.same p.2 q.2) x.hp y.hp)
theorem St.same_eq (x y : St) (h : St.same x y = true) : x = y := by
 obtain ⟨h1, h⟩ := and_tt h
 obtain ⟨h2, h3⟩ := and_tt h
 obtain ⟨n, fr, hp⟩ := x
 obtain ⟨n', fr', hp'⟩ := y
 have e1 : n = n' := beqN_eq _ _ h1
 have e2 : fr = fr' := beqL_eq (fun p q hpq => by
   obtain ⟨k1, k2⟩ := and_tt hpq
   exact Prod.ext (beqN_eq _ _ k1) (D.same_eq _ _ k2)) h2
 have e3 : hp = hp' := beqL_eq (fun p q hpq => by
   obtain ⟨k1, k2⟩ := and_tt hpq
   exact Prod.ext (beqN_eq _ _ k1) (Blk.same_eq _ _ k2)) h3
 rw [e1, e2, e3]
def bothS (a b : Option St) : Option St := match a, b with
 | some x, some y => match St.same x y with
   | true => some x
   | false => none
 | _, _ => none
theorem bothS_some {a b : Option St} {r : St} (h : bothS a b = some r) : a = some r ∧ b = some r := by
 unfold bothS at h
 split at h
 · rename_i x y
   split at h
   · rename_i e
     cases h
     rw [St.same_eq _ _ e]; exact ⟨rfl, rfl⟩
   · cases h
 · cases h
def alG {α : Type} (f : α → List α → Option St) : List α → List α → Option St
 | _, [] => none
 | pre, a :: l => match l with
   | [] => f a (pre ++ [])
   | _ :: _ => bothS (f a (pre ++ l)) (alG f (pre ++ [a]) l)
theorem alG_some {α : Type} {f : α → List α → Option St} {r : St} : ∀ (pre l : List α), alG f pre l = some r → ∀ i (hi : i < l.length), f l[i] (pre ++ l.eraseIdx i) = some r
 | _, [], h, i, hi => absurd hi (Nat.not_lt_zero _)
 | pre, a :: l, h, i, hi => by
   unfold alG at h
   split at h
   · cases i with
     | zero => exact h
     | succ i => exact absurd hi (by simp)
   · obtain ⟨h1, h2⟩ := bothS_some h
     cases i with
     | zero => exact h1
     | succ i =>
       have := alG_some (pre ++ [a]) _ h2 i (Nat.lt_of_succ_lt_succ hi)
       simpa using this
@[reducible] def stBoth : BothC St := ⟨bothS, bothS_some, fun l f => alG f [] l, fun h => alG_some [] _ h⟩
end Go.Proofs.YtahjncefiegflaaGreatDoor


/- The machine of values with every drawn region carried out on its own: what it computes can be reckoned by the kernel at given data. -/
namespace Go.Proofs.YtahjncefiegflaaGreatDoor
set_option linter.unusedVariables false
set_option linter.unusedSimpArgs false
open Go Go.RowKit
section
variable {R : Type} [BothC R]
noncomputable def peek (E : Env) (all : List Oper) (l : List Oper) : St → (St → Option R) → Option R :=
 List.rec (motive := fun _ => St → (St → Option R) → Option R) (fun st k => k st)
   (fun o _ ih st k => match readKind E o.op with
     | true => match guardD all o st (fun st => valD E o.op o.type st fun d => st.putK o.dst d some) (some : St → Option St) with
       | some st' => ih st' k
       | none => ih st k
     | false => ih st k) l
def namesD : D → List Nat
 | .row r => [r]
 | .elp r _ _ _ => [r]
 | .tl r _ _ => [r]
 | .box r _ => [r]
 | .mref r => [r]
 | .fnc _ l => l
 | .tup _ l => namesL l
 | _ => []
where
 namesL : List D → List Nat
   | [] => []
   | .row r :: l => r :: namesL l
   | .elp r _ _ _ :: l => r :: namesL l
   | .tl r _ _ :: l => r :: namesL l
   | .box r _ :: l => r :: namesL l
   | .mref r :: l => r :: namesL l
   | .fnc _ m :: l => m ++ namesL l
   | _ :: l => namesL l
def namesDs : List D → List Nat
 | [] => []
 | d :: l => namesD d ++ namesDs l
noncomputable def reach (hp : List (Nat × Blk)) : Nat → List Nat → List Nat → List Nat
 | 0, _, acc => acc
 | n + 1, [], acc => acc
 | n + 1, r :: l, acc => match memN acc r with
   | true => reach hp n l acc
   | false => match aget hp r with
     | some (.cells cs) => reach hp n (namesDs cs ++ l) (r :: acc)
     | _ => reach hp n l (r :: acc)
def usesO (E : Env) (o : Oper) : List Operand := match readKind E o.op with
 | true => []
 | false => match o.op with
   | .store _ x v => [x, v]
   | .box _ x => [x]
   | .build _ ps => ps.toList.map (·.2)
   | .buildSlice _ _ ps => ps.toList.map (·.2)
   | .mapUpdate _ m k x => [m, k, x]
   | .makeFunc _ _ caps => caps.toList
   | .range _ x => [x]
   | .next x _ => [x]
   | .convert _ _ x => [x]
   | .call c => match c.callee with
     | .value v => v :: c.args.toList
     | .builtin _ => c.args.toList
     | _ => c.args.toList
   | _ => []
noncomputable def hidden (E : Env) (ops : List Oper) (st : St) : List Nat :=
 match peek (R := St) E ops ops st some with
 | some st' => (fun rs => (st'.hp.map (·.1)).filter fun r => !memN rs r) (reach st'.hp 1000 (namesDs ((ops.map (usesO E)).flatten.map st'.ev)) [])
 | none => []
def dropsO (ops : Array Oper) : List Nat := ops.toList.filterMap fun o => match o.op with
 | .assign _ => none
 | _ => o.dst
noncomputable def keptAll (hp : List (Nat × Blk)) (l : List (Nat × Blk)) : Bool :=
 List.rec (motive := fun _ => Bool) true (fun p _ ih => match aget hp p.1 with
   | some _ => ih
   | none => false) l
noncomputable def drawA (E : Env) (ops : Array Oper) (st : St) : Option St :=
 amapK (R := St) id (adrop (dropsO ops) st.fr) fun fr => (fun st => natsK (R := St) (hidden E ops.toList st) fun l => match @drawG St stBoth E ops l st some with
   | some st' => match keptAll st'.hp st.hp with
     | true => some st'
     | false => match @ordP St stBoth E ops ops.size (Array.replicate ops.size false) st some with
       | some st2 => some st2
       | none => some st'
   | none => @ordP St stBoth E ops ops.size (Array.replicate ops.size false) st some) ⟨st.n, fr, st.hp⟩
noncomputable def iterC (body : St → (Ex → St → Option R) → Option R) : Nat → St → (Ex → St → Option R) → Option R
 | 0, _, _ => none
 | n + 1, st, k => body st fun e st => match e with
   | .normal => iterC body n st k
   | .exit j => k (.exit j) st
   | .ret => k .ret st
noncomputable def execC (E : Env) (N : Nat) (c : Code) : Nat → St → (Ex → St → Option R) → Option R :=
 Code.rec (motive := fun _ => Nat → St → (Ex → St → Option R) → Option R)
   (fun _ st k => k .normal st)
   (fun id ops draw _ st k => match draw with
     | false => opsD E ops.toList ops.toList st (k .normal)
     | true => match ops.toList.all (quietOp E) && Region.lexB .any ops with
       | true => opsD E ops.toList ops.toList st (k .normal)
       | false => match Region.noSelect ops with
         | true => (match drawA E ops st with
           | some st' => k .normal st'
           | none => none)
         | false => none)
   (fun _ _ iha ihb i st k => iha i st fun e st => match e with
     | .normal => ihb i st k
     | .exit j => k (.exit j) st
     | .ret => k .ret st)
   (fun c _ _ iht ihe i st k => match st.ev c with
     | .v .bool c => br c (iht i st k) (ihe i st k)
     | .bl true => iht i st k
     | .bl false => ihe i st k
     | _ => none)
   (fun id _ ih _ st k => ih id st fun e st => match e with
     | .normal => k .normal st
     | .exit j => if j = id then k .normal st else k (.exit j) st
     | .ret => k .ret st)
   (fun _ ih i st k => iterC (ih i) N st k)
   (fun _ _ _ _ _ _ _ _ _ => none)
   (fun id _ st k => k (.exit id) st)
   (fun _ _ _ _ _ => none)
   (fun _ _ _ _ => none)
   (fun _ _ _ _ => none)
   (fun _ st k => k .ret st)
   (fun _ _ _ _ => none) c
theorem execC_draw (E : Env) (N id : Nat) (ops : Array Oper) (i : Nat) (st : St) (k : Ex → St → Option R) : execC E N (.region id ops true) i st k = (match ops.toList.all (quietOp E) && Region.lexB .any ops with
       | true => opsD E ops.toList ops.toList st (k .normal)
       | false => match Region.noSelect ops with
         | true => (match drawA E ops st with
           | some st' => k .normal st'
           | none => none)
         | false => none) := rfl
theorem execC_cond (E : Env) (N : Nat) (c : Operand) (x y : Code) (i : Nat) (st : St) (k : Ex → St → Option R) : execC E N (.cond c x y) i st k = (match st.ev c with
     | .v .bool c => br c (execC E N x i st k) (execC E N y i st k)
     | .bl true => execC E N x i st k
     | .bl false => execC E N y i st k
     | _ => none) := rfl
theorem execC_loop (E : Env) (N : Nat) (c : Code) (i : Nat) (st : St) (k : Ex → St → Option R) : execC E N (.loop c) i st k = iterC (execC E N c i) N st k := rfl
def resSlots : List ResultVar → List Nat
 | [] => []
 | .tmp t :: l => t :: resSlots l
 | .cell x _ :: l => x :: resSlots l
noncomputable def finK (f : Func) (st : St) : Option St :=
 akeepK (R := St) (resSlots f.results.toList) id st.fr fun fr => natsK (R := St) (reach st.hp 1000 (namesDs (fr.map (·.2)) ++ (st.hp.map (·.1)).filter fun r => Nat.blt r 1000) []) fun rs => akeepBK (R := St) rs st.hp fun hp => some ⟨st.n, fr, hp⟩
noncomputable def endC (E : Env) (N : Nat) (f : Func) (c : Code) (st : St) : Option St :=
 @execC St stBoth E N c 0 st fun e st => match e with
   | .exit _ => none
   | _ => finK f st
end
section
variable {P : Program} {df : List Deferred} {G : World → Prop} {B0 : Nat} {E : Env} {M : Nat → Nat → Prop} {M0 : Nat → Nat → Prop} {w0 : World} {gi g : Gh} {st : St} {a : Act} {w : World}
theorem aget_adrop' {α : Type} (ks : List Nat) (l : List (Nat × α)) (i : Nat) (y : α) (h : aget (adrop ks l) i = some y) : aget l i = some y := by
 induction l with
 | nil => cases h
 | cons p l ih =>
   obtain ⟨j, x⟩ := p
   unfold adrop at h
   rw [aget_cons]
   have hno : ∀ l : List (Nat × α), memN ks j = true → aget (adrop ks l) j = none := by
     intro l hj
     induction l with
     | nil => rfl
     | cons q l ih2 =>
       obtain ⟨k, z⟩ := q
       unfold adrop
       split
       · exact ih2
       · rename_i hk
         rw [aget_cons]
         have : Nat.beq k j = false := by
           cases hkj : Nat.beq k j with
           | false => rfl
           | true => have := Nat.eq_of_beq_eq_true hkj; subst this; rw [hj] at hk; cases hk
         rw [this]; exact ih2
   cases hb : Nat.beq j i with
   | true =>
     have : j = i := Nat.eq_of_beq_eq_true hb
     subst this
     split at h
     · rename_i hj; rw [hno l hj] at h; cases h
     · rw [aget_cons, hb] at h; exact h
   | false =>
     split at h
     · exact ih h
     · rw [aget_cons, hb] at h; exact ih h
theorem Sim.drop (hs : Sim df G B0 M0 w0 gi g st a w) (ts : List Nat) : Sim df G B0 M0 w0 gi g ⟨st.n, adrop ts st.fr, st.hp⟩ a w :=
 { hs with
   fr := fun t d h => hs.fr t _ (aget_adrop' _ _ _ _ h)
   inb := fun t d h => hs.inb t _ (aget_adrop' _ _ _ _ h) }
theorem ordA_sound {R : Type} [BothC R] (hE : EnvOk P G B0 E) {id : Nat} {ops : Array Oper} (hsel : Region.noSelect ops = true) {k : St → Option R} {r : R} {Q : Exit → Act → World → Prop} (hK : Goes df G B0 M0 w0 gi k r (Q .normal)) (hs : Sim df G B0 M0 w0 gi g st a w)
   (h : ordP E ops ops.size (Array.replicate ops.size false) st k = some r) : (Code.region id ops true).wp P (fun e a w => e = .normal ∧ Q .normal a w) a w := by
 have hs1 := hs.later (Ext.refl w).drew
 have hQ : ∀ c a w, ¬ (Exit.panic c = Exit.normal ∧ Q .normal a w) := fun c a w h => by cases h.1
 exact wp_region_any hE.mixed (ordP_sound hE hsel (Q := fun e a w => e = .normal ∧ Q .normal a w) (fun g st a w hs h => ⟨rfl, hK g st a w hs h⟩) hQ _ _ _ _ _ _ hs1 h)
theorem execC_sound {R : Type} [BothC R] (hE : EnvOk P G B0 E) (N : Nat) : ∀ (c : Code) (i : Nat) {k : Ex → St → Option R} {r : R} {Q : Exit → Act → World → Prop}, Leaves df G B0 M0 w0 gi k r Q → ∀ (g : Gh) (st : St) (a : Act) (w : World),
   Sim df G B0 M0 w0 gi g st a w → execC E N c i st k = some r → c.wp P Q a w
 | .skip, i, k, r, Q, hK, g, st, a, w, hs, h => wp_skip (hK .normal _ _ _ _ hs h)
 | .region id ops false, i, k, r, Q, hK, g, st, a, w, hs, h => wp_region_list (opsD_sound hE (fun _ _ _ _ hs h => hK .normal _ _ _ _ hs h) _ _ _ _ _ hs h)
 | .region id ops true, i, k, r, Q, hK, g, st, a, w, hs, h => by
   rw [execC_draw] at h
   split at h
   · rename_i hq
     simp only [Bool.and_eq_true] at hq
     exact wp_region_quiet (C := fun w' => Ext w w') hE.mixed hq.2 (Ext.refl w).drew (opsD_quiet hE (fun _ _ _ _ hs h => hK .normal _ _ _ _ hs h) _ _ _ _ hq.1 hs h)
   · split at h
     · rename_i hsel
       split at h
       · rename_i st' hd
         unfold drawA at hd
         simp only [amapK_eq, amap_id] at hd
         rw [natsK_eq] at hd
         have hs := hs.drop (dropsO ops)
         have key : ∀ l, @drawG St stBoth E ops l ⟨st.n, adrop (dropsO ops) st.fr, st.hp⟩ some = some st' → (Code.region id ops true).wp P Q a w := fun l hd => by
           refine Code.wp_mono (fun e a w hh => ?_) (@drawG_sound _ _ _ _ _ _ _ _ _ _ _ _ St stBoth hE id _ hsel l some st' Q (fun _ _ _ _ hs hh => ?_) hs hd)
           · rw [hh.1]; exact hh.2
           · cases hh
             exact hK .normal _ _ _ _ hs h
         have key2 : @ordP St stBoth E ops ops.size (Array.replicate ops.size false) ⟨st.n, adrop (dropsO ops) st.fr, st.hp⟩ some = some st' → (Code.region id ops true).wp P Q a w := fun hd => by
           refine Code.wp_mono (fun e a w hh => ?_) (@ordA_sound _ _ _ _ _ _ _ _ _ _ _ _ St stBoth hE id _ hsel some st' Q (fun _ _ _ _ hs hh => ?_) hs hd)
           · rw [hh.1]; exact hh.2
           · cases hh
             exact hK .normal _ _ _ _ hs h
         split at hd
         · rename_i st'' hd'
           split at hd
           · cases hd
             exact key _ hd'
           · split at hd
             · rename_i st2 hd2
               cases hd
               exact key2 hd2
             · cases hd
               exact key _ hd'
         · exact key2 hd
       · cases h
     · cases h
 | .seq x y, i, k, r, Q, hK, g, st, a, w, hs, h => by
   refine wp_seq (execC_sound hE N x i ?_ _ _ _ _ hs h)
   intro e g st a w hs h
   cases e with
   | normal => exact execC_sound hE N y i hK _ _ _ _ hs h
   | exit id => exact hK (.exit id) _ _ _ _ hs h
   | ret => exact hK .ret _ _ _ _ hs h
 | .cond c x y, i, k, r, Q, hK, g, st, a, w, hs, h => by
   rw [execC_cond] at h
   have hc := hs.ev c
   split at h
   · rename_i b hd
     rw [hd] at hc
     refine wp_cond (t := b) (RepD.bool hc) ?_
     rcases br_some h with ⟨e, h2⟩ | ⟨e, h2⟩
     · subst e; exact execC_sound hE N x i hK _ _ _ _ hs h2
     · subst e; exact execC_sound hE N y i hK _ _ _ _ hs h2
   · rename_i hd
     rw [hd] at hc
     exact wp_cond (t := true) hc (execC_sound hE N x i hK _ _ _ _ hs h)
   · rename_i hd
     rw [hd] at hc
     exact wp_cond (t := false) hc (execC_sound hE N y i hK _ _ _ _ hs h)
   · cases h
 | .block id c, i, k, r, Q, hK, g, st, a, w, hs, h => by
   refine wp_block (execC_sound hE N c id ?_ _ _ _ _ hs h)
   intro e g st a w hs h
   cases e with
   | normal => exact hK .normal _ _ _ _ hs h
   | exit j =>
     simp only at h
     show (if j = id then Q .normal a w else Q (.exit j) a w)
     split at h
     · rename_i e; rw [if_pos e]; exact hK .normal _ _ _ _ hs h
     · rename_i e; rw [if_neg e]; exact hK (.exit j) _ _ _ _ hs h
   | ret => exact hK .ret _ _ _ _ hs h
 | .loop c, i, k, r, Q, hK, g, st, a, w, hs, h => by
   rw [execC_loop] at h
   have key : ∀ (n : Nat) (g : Gh) (st : St) (a : Act) (w : World), Sim df G B0 M0 w0 gi g st a w → iterC (execC E N c i) n st k = some r → Code.rounds P c Q n a w := by
     intro n
     induction n with
     | zero => intro g st a w hs h; cases h
     | succ n ih =>
       intro g st a w hs h
       refine execC_sound hE N c i ?_ _ _ _ _ hs h
       intro e g st a w hs h
       cases e with
       | normal => exact ih g _ _ _ hs h
       | exit id => exact hK (.exit id) _ _ _ _ hs h
       | ret => exact hK .ret _ _ _ _ hs h
   exact wp_loop_rounds N (key N _ _ _ _ hs h)
 | .exit id, i, k, r, Q, hK, g, st, a, w, hs, h => wp_exit (hK (.exit id) _ _ _ _ hs h)
 | .ret, i, k, r, Q, hK, g, st, a, w, hs, h => Go.wp_ret (hK .ret _ _ _ _ hs h)
 | .rangeFunc _ _ _ _, i, k, r, Q, hK, g, st, a, w, hs, h => by cases h
 | .scope _, i, k, r, Q, hK, g, st, a, w, hs, h => by cases h
 | .label _, i, k, r, Q, hK, g, st, a, w, hs, h => by cases h
 | .goto _, i, k, r, Q, hK, g, st, a, w, hs, h => by cases h
 | .refuse _, i, k, r, Q, hK, g, st, a, w, hs, h => by cases h
theorem Sim.few (hs : Sim df G B0 M0 w0 gi g st a w) (ts : List Nat) : Sim df G B0 M0 w0 gi g ⟨st.n, akeep ts id st.fr, st.hp⟩ a w :=
 { hs with
   fr := fun t d h => by obtain ⟨x, h1, rfl⟩ := aget_akeep _ _ _ _ _ h; exact hs.fr t _ h1
   inb := fun t d h => by obtain ⟨x, h1, rfl⟩ := aget_akeep _ _ _ _ _ h; exact hs.inb t _ h1 }
theorem Sim.fewB (hs : Sim df G B0 M0 w0 gi g st a w) (l : List Nat) : Sim df G B0 M0 w0 gi g ⟨st.n, st.fr, akeep l Blk.past st.hp⟩ a w :=
 { hs with
   hp := fun r blk hb => by
     obtain ⟨x, h1, rfl⟩ := aget_akeep l Blk.past st.hp r blk hb
     obtain ⟨y, h2, h3⟩ := hs.hp r _ h1
     exact ⟨y, h2, h3.past⟩ }
theorem Sim.fin (hs : Sim df G B0 M0 w0 gi g st a w) {f : Func} {st' : St} (h : finK f st = some st') : Sim df G B0 M0 w0 gi g st' a w := by
 unfold finK at h
 simp only [akeepK_eq, natsK_eq, akeepBK_eq] at h
 cases h
 exact (hs.few _).fewB _
theorem runC_sound (hE : EnvOk P G B0 E) {f : FuncId} {fn : Func} {c : Code} (hf : P.funcs[f]? = some fn) (hb : fn.body = some c) (hcall : ∀ (args : Array Value) (w : World), (callFunc f args).run P w = .ok (.enter f args) w)
   (F : AF) (pack : SV F.rs → BV F.cs → F.R) (hpack : ∀ x y, F.out (pack x y) = (x, y)) (N : Nat) (hps : Nat.ble F.ps.length fn.ntmps = true) (hbs : Nat.ble F.bs.length 1000 = true)
   (hrunC : ∀ x y z, F.f x y = some z → ∃ sE, endC E N fn c (start fn F.ps F.bs x y) = some sE ∧ resD E fn F pack sE = some z) (hkp : keptF F.bs F.cs = false) : Sound P G B0 f F := by
 refine ⟨hcall, fun M w g vs x y z hG hB hfr hrun => ?_⟩
 refine calls_of_wp hf hb ?_
 obtain ⟨sE, hrun, hres⟩ := hrunC x y z hrun
 · unfold endC at hrun
   have hlen : vs.length = F.ps.length := by
     have := hfr.args.len
     rw [← this]
     have hl : ∀ (l : List Sl) (x : SV l), (lays id l x).length = l.length := fun l => by
       induction l with
       | nil => intro _; rfl
       | cons s l ih => intro x; show (lays id l x.2).length + 1 = _; rw [ih]; rfl
     exact hl _ _
   have hps' : vs.length ≤ fn.ntmps := by rw [hlen]; exact Nat.le_of_ble_eq_true hps
   have hbs' : F.bs.length ≤ 1000 := Nat.le_of_ble_eq_true hbs
   have hM : ∀ b o, Mof (fun b o => M b o ∧ ¬ Xof g b) g b o ↔ M b o := by
     intro b o
     constructor
     · rintro (h | ⟨r, x, h1, h2, h3⟩)
       · exact h.1
       · exact (hfr.chg _ _ _ _ h1 h2).2 h3
     · intro h
       by_cases hX : Xof g b
       · obtain ⟨r, x, h1, h2⟩ := hX
         exact .inr ⟨r, x, h1, h2, (hfr.chg _ _ _ _ h1 h2).1 h⟩
       · exact .inl ⟨h, hX⟩
   have eM : Mof (fun b o => M b o ∧ ¬ Xof g b) g = M := funext fun b => funext fun o => propext (hM b o)
   have hsim : Sim [] G B0 (fun b o => M b o ∧ ¬ Xof g b) w g g (start fn F.ps F.bs x y) { tmps := vs.toArray ++ Array.replicate (fn.ntmps - vs.toArray.size) undef, defers := [] } w := by
     refine { defers := rfl, sz := ?_, fr := ?_, inb := ?_, hp := ?_, low := ?_, inj := hfr.inj, row := hfr.row, m0 := fun b o h => ⟨hfr.mlt _ _ h.1, h.2⟩, pin := fun _ _ h _ => h, gin := fun r x h _ => Nat.lt_of_lt_of_le (hfr.dom r x h) hbs', gil := fun b ⟨r, x, h1, h2⟩ => (hfr.low _ _ _ h1 h2).1, ext := ExtX.refl _ _, stp := Step.refl _ _, gg := hG, b0 := hB }
     · show (vs.toArray ++ Array.replicate (fn.ntmps - vs.toArray.size) undef).size = fn.ntmps
       simp; omega
     · intro t d h
       rw [eM]
       obtain ⟨_, v, h1, h2⟩ := prms_get F.ps 0 x vs hfr.args t d h
       rw [Nat.sub_zero] at h1
       have hlt := (List.getElem?_eq_some_iff.1 h1).1
       have : (vs.toArray ++ Array.replicate (fn.ntmps - vs.toArray.size) undef).getD t undef = v := by
         rw [Array.getD_eq_getD_getElem?, Array.getElem?_append_left (by simpa using hlt), List.getElem?_toArray, h1]; rfl
       show RepD M w g d ((vs.toArray ++ Array.replicate (fn.ntmps - vs.toArray.size) undef).getD t undef)
       rw [this]; exact h2
     · intro t d h
       obtain ⟨_, v, h1, _⟩ := prms_get F.ps 0 x vs hfr.args t d h
       rw [Nat.sub_zero] at h1
       have hlt := (List.getElem?_eq_some_iff.1 h1).1
       show t < fn.ntmps
       omega
     · intro r blk h
       rw [eM]
       obtain ⟨_, h1⟩ := blks_get F.bs 0 y r blk h
       rw [Nat.sub_zero] at h1
       exact hfr.res r blk h1
     · exact fun r x b h1 h2 => ⟨(hfr.low _ _ _ h1 h2).1, (hfr.low _ _ _ h1 h2).2, .inl ⟨r, x, h1, h2⟩⟩
   refine @execC_sound _ _ _ _ _ _ _ _ St stBoth hE N c 0 _ sE _ ?_ _ _ _ _ hsim hrun
   intro e g' st0 a w' hs0 h
   have hh : ∃ st, Sim [] G B0 (fun b o => M b o ∧ ¬ Xof g b) w g g' st a w' ∧ resD E fn F pack st = some z ∧ ∀ j, e ≠ .exit j := by
     cases e with
     | exit id => cases h
     | normal =>
       exact ⟨_, hs0.fin h, hres, fun j hj => by cases hj⟩
     | ret =>
       exact ⟨_, hs0.fin h, hres, fun j hj => by cases hj⟩
   clear h hs0 hres
   obtain ⟨st, hs, h, hne⟩ := hh
   have fin : resD E fn F pack st = some z → a.defers = [] ∧ ∃ v, (results fn a.tmps).run P w' = .ok v w' ∧ ∃ vs' g'', Ending.returned v = .returned (rets vs') ∧ ExtX (Xof g) w w' ∧ Step M w (Mafter M g g'') w' ∧ Frag B0 (Mafter M g g'') w' g'' F.rs F.cs (F.out z).1 (F.out z).2 vs' ∧
     (∀ r x, g r = some x → (isBM x.v = true ∨ keptF F.bs F.cs = true) → g'' r = some x) ∧ ∀ b, Xof g'' b → Xof g b ∨ w.heap.size ≤ b := by
     intro h
     obtain ⟨vs', g'', h1, h2, h3, h4, h5, h6⟩ := resD_sound hE hs hpack hfr.dom hM h
     exact ⟨hs.defers, _, h1, vs', g'', rfl, h2, h3, h4, fun r x e1 e2 => h5 r x e1 (e2.elim id fun e => by rw [hkp] at e; cases e), h6⟩
   cases e with
   | normal => exact fin h
   | ret => exact fin h
   | exit id => exact absurd rfl (hne id)
end
end Go.Proofs.YtahjncefiegflaaGreatDoor


/- Functions that put off one call of a function value, which recovers: in the machine that carries out calls. -/
namespace Go.Proofs.YtahjncefiegflaaGreatDoor
set_option linter.unusedVariables false
set_option linter.unusedSimpArgs false
open Go Go.RowKit
def splitDf : List Oper → Option (List Oper × Oper)
 | [] => none
 | o :: l => match l with
   | [] => match o.op with
     | .defer _ => some ([], o)
     | _ => none
   | _ :: _ => match splitDf l with
     | some (i, d) => some (o :: i, d)
     | none => none
theorem splitDf_eq : ∀ {l i : List Oper} {d : Oper}, splitDf l = some (i, d) → l = i ++ [d]
 | [], _, _, h => by cases h
 | [o], i, d, h => by
   unfold splitDf at h
   dsimp only at h
   split at h
   · cases h; rfl
   · cases h
 | o :: o' :: l, i, d, h => by
   unfold splitDf at h
   dsimp only at h
   split at h
   · rename_i i' d' h'
     cases h
     rw [splitDf_eq h']; rfl
   · cases h
noncomputable def dfFn (st : St) (d : Oper) : Option FuncId := match d.guard, d.dst, d.op with
 | none, none, .defer c => match c.callee, c.args.toList with
   | .value x, [] => match st.ev x with
     | .fnc f _ => some f
     | _ => none
   | _, _ => none
 | _, _, _ => none
noncomputable def endK (fn : Func) : Ex → St → Option St := fun e st => match e with
   | .exit _ => none
   | _ => finK fn st
noncomputable def endD (rcv : FuncId → Bool) (E : Env) (N : Nat) (fn : Func) (c : Code) : St → Option St :=
 Code.rec (motive := fun _ => St → Option St) (fun _ => none) (fun _ _ _ _ => none)
   (fun x y _ ih st => match x with
     | .region id ops false => match splitDf ops.toList with
       | some (i, d) => @opsD St stBoth E ops.toList i st fun st => match dfFn st d with
         | some f => match rcv f with
           | true => @execC St stBoth E N y 0 st (endK fn)
           | false => none
         | none => none
       | none => @execC St stBoth E N (.region id ops false) 0 st fun e st => match e with
         | .normal => ih st
         | _ => none
     | x => @execC St stBoth E N x 0 st fun e st => match e with
         | .normal => ih st
         | _ => none)
   (fun _ _ _ _ _ _ => none) (fun _ _ _ _ => none) (fun _ _ _ => none) (fun _ _ _ _ _ _ _ => none) (fun _ _ => none) (fun _ _ _ => none) (fun _ _ => none) (fun _ _ => none) (fun _ => none) (fun _ _ => none) c
theorem Oper.wp_mono2 {P : Program} {o : Oper} {a : Act} {w : World} {K K' : Act → World → Prop} {Q Q' : Exit → Act → World → Prop} (h : ∀ a w, K a w → K' a w) (hq : ∀ e a w, e ≠ .normal → Q e a w → Q' e a w)
   (hh : o.wp P a w K Q) : o.wp P a w K' Q' := by
 have hl : LetsOut Q → LetsOut Q' := fun ⟨a, w, h⟩ => ⟨a, w, hq _ _ _ (by simp) h⟩
 unfold Oper.wp at *
 generalize (execOp a.eval o).run P w = r at *
 cases r with
 | ok n w' =>
   cases n <;> simp only [Oper.upon] at hh ⊢ <;> first
     | exact h _ _ hh
     | exact hh
     | exact hh.mono fun e w'' hh => by
         cases e <;> first | exact h _ _ hh | exact hq _ _ _ (by simp) hh | exact hl hh
     | exact Rows.mono hh fun v w'' hh => h _ _ hh
 | halt s w' =>
   cases s <;> simp only [Oper.upon] at hh ⊢ <;> first | exact hq _ _ _ (by simp) hh | exact hh
def restQ (P : Program) (ops : Array Oper) (Q : Exit → Act → World → Prop) (rest : List Oper) : Exit → Act → World → Prop := fun e a w => match e with
 | .normal => wpList P ops Q rest a w
 | e => Q e a w
theorem wpList_split {P : Program} {ops : Array Oper} {Q : Exit → Act → World → Prop} (rest : List Oper) : ∀ (l : List Oper) (a : Act) (w : World), wpList P ops (restQ P ops Q rest) l a w → wpList P ops Q (l ++ rest) a w
 | [], a, w, h => h
 | o :: l, a, w, h => by
   have hq : ∀ e a w, e ≠ Exit.normal → restQ P ops Q rest e a w → Q e a w := fun e a w he h => by cases e <;> first | exact absurd rfl he | exact h
   show wpList P ops Q (o :: (l ++ rest)) a w
   unfold wpList at h ⊢
   split
   · rename_i hw
     rw [if_pos hw] at h
     rcases h with h | ⟨h1, a', w', h2⟩
     · exact .inl (Oper.wp_mono2 (fun a w h => wpList_split rest l a w h) hq h)
     · exact .inr ⟨h1, a', w', hq _ _ _ (by simp) h2⟩
   · rename_i hw
     rw [if_neg hw] at h
     exact wpList_split rest l _ _ h
section
variable {P : Program} {df : List Deferred} {G : World → Prop} {B0 : Nat} {E : Env} {M : Nat → Nat → Prop} {M0 : Nat → Nat → Prop} {w0 : World} {gi g : Gh} {st : St} {a : Act} {w : World}
theorem defer_step (hs : Sim [] G B0 M0 w0 gi g st a w) {d : Oper} {f : FuncId} (h : dfFn st d = some f) : ∃ caps : Array Value, ∀ (ops : Array Oper) (Q : Exit → Act → World → Prop), (∀ a', Sim [⟨.fn (.func f) caps, #[]⟩] G B0 M0 w0 gi g st a' w → Q .normal a' w) → wpList P ops Q [d] a w := by
 unfold dfFn at h
 split at h
 case h_2 => cases h
 rename_i c hg hd hop
 split at h
 case h_2 => cases h
 rename_i x hcal hargs
 split at h
 case h_2 => cases h
 rename_i f' l hev
 cases h
 have hx := hs.ev x
 rw [hev] at hx
 obtain ⟨caps, hv, _⟩ := hx
 refine ⟨caps, fun ops Q hQ => ?_⟩
 unfold wpList
 rw [if_pos (by unfold Region.wanted; rw [hg])]
 refine .inl ?_
 have ha0 : c.args = #[] := by
   apply Array.ext'
   simpa using hargs
 have hex : (execOp a.eval d).run P w = .ok (.defer ⟨.fn (.func f) caps, #[]⟩) w := by
   simp [execOp, hop, resolve, hcal, hv, Deferred.ofValue, ha0]
 unfold Oper.wp
 rw [hex, Oper.upon_defer, hd]
 refine hQ _ ?_
 have hdf : a.defers = [] := hs.defers
 exact { hs with defers := by simp [Act.put, hdf] }
theorem endD_wp (hE : EnvOk P G B0 E) {rcv : FuncId → Bool} (hcallr : ∀ f, rcv f = true → ∀ (args : Array Value) (w : World), (callFunc f args).run P w = .ok (.enter f args) w) (N : Nat) (fn : Func) {sE : St} {Q : Exit → Act → World → Prop} : ∀ (c : Code) (g : Gh) (st : St) (a : Act) (w : World),
   Sim [] G B0 M0 w0 gi g st a w → endD rcv E N fn c st = some sE →
   (∀ e g' a' w' f caps, rcv f = true → (e = .normal ∨ e = .ret) → Sim [⟨.fn (.func f) caps, #[]⟩] G B0 M0 w0 gi g' sE a' w' → Q e a' w') → c.wp P Q a w
 | .seq x y, g, st, a, w, hs, h, hend => by
   have other : ∀ x, (@execC St stBoth E N x 0 st fun e st => match e with | .normal => endD rcv E N fn y st | _ => none) = some sE → (Code.seq x y).wp P Q a w := by
     intro x h
     refine wp_seq (@execC_sound _ _ _ _ _ _ _ _ St stBoth hE N x 0 _ sE _ ?_ _ _ _ _ hs h)
     intro e g st a w hs h
     cases e with
     | normal => exact endD_wp hE hcallr N fn y _ _ _ _ hs h hend
     | exit id => cases h
     | ret => cases h
   by_cases hx : ∃ id ops i d, x = .region id ops false ∧ splitDf ops.toList = some (i, d)
   · obtain ⟨id, ops, i, d, rfl, hsp⟩ := hx
     have h : (match splitDf ops.toList with
       | some (i, d) => @opsD St stBoth E ops.toList i st fun st => match dfFn st d with
         | some f => match rcv f with
           | true => @execC St stBoth E N y 0 st (endK fn)
           | false => none
         | none => none
       | none => @execC St stBoth E N (.region id ops false) 0 st fun e st => match e with
         | .normal => endD rcv E N fn y st
         | _ => none) = some sE := h
     rw [hsp] at h
     dsimp only at h
     refine wp_seq (wp_region_list ?_)
     have hl : ops.toList = i ++ [d] := splitDf_eq hsp
     rw [hl]
     refine wpList_split [d] i a w ?_
     refine @opsD_sound _ _ _ _ _ _ _ _ St stBoth hE _ _ sE _ ?_ i _ _ _ _ hs h
     intro g st a w hs h
     dsimp only at h
     split at h
     · rename_i f hf
       split at h
       · rename_i hr
         obtain ⟨caps, hst⟩ := defer_step (P := P) hs hf
         refine hst _ _ fun a' hs' => ?_
         refine @execC_sound _ _ _ _ _ _ _ _ St stBoth hE N y 0 _ sE _ ?_ _ _ _ _ hs' h
         intro e g st a w hs h
         unfold endK at h
         cases e with
         | exit id => cases h
         | normal =>
           exact hend _ _ _ _ f caps hr (.inl rfl) (hs.fin h)
         | ret =>
           exact hend _ _ _ _ f caps hr (.inr rfl) (hs.fin h)
       · cases h
     · cases h
   · refine other x ?_
     rw [← h]
     cases x with
     | region id ops draw =>
       cases draw with
       | true => rfl
       | false =>
         cases hsp : splitDf ops.toList with
         | some p => exact absurd ⟨id, ops, p.1, p.2, rfl, hsp⟩ hx
         | none =>
           have e : endD rcv E N fn (.seq (.region id ops false) y) st = (match splitDf ops.toList with
             | some (i, d) => @opsD St stBoth E ops.toList i st fun st => match dfFn st d with
               | some f => match rcv f with
                 | true => @execC St stBoth E N y 0 st (endK fn)
                 | false => none
               | none => none
             | none => @execC St stBoth E N (.region id ops false) 0 st fun e st => match e with
               | .normal => endD rcv E N fn y st
               | _ => none) := rfl
           rw [e, hsp]
     | _ => rfl
 | .skip, _, _, _, _, _, h, _ => by cases h
 | .region _ _ _, _, _, _, _, _, h, _ => by cases h
 | .cond _ _ _, _, _, _, _, _, h, _ => by cases h
 | .block _ _, _, _, _, _, _, h, _ => by cases h
 | .loop _, _, _, _, _, _, h, _ => by cases h
 | .rangeFunc _ _ _ _, _, _, _, _, _, h, _ => by cases h
 | .exit _, _, _, _, _, _, h, _ => by cases h
 | .scope _, _, _, _, _, _, h, _ => by cases h
 | .label _, _, _, _, _, _, h, _ => by cases h
 | .goto _, _, _, _, _, _, h, _ => by cases h
 | .ret, _, _, _, _, _, h, _ => by cases h
 | .refuse _, _, _, _, _, _, h, _ => by cases h
theorem runDf_sound (hE : EnvOk P G B0 E) {f : FuncId} {fn : Func} {c : Code} (hf : P.funcs[f]? = some fn) (hb : fn.body = some c) (hcall : ∀ (args : Array Value) (w : World), (callFunc f args).run P w = .ok (.enter f args) w)
   (F : AF) (pack : SV F.rs → BV F.cs → F.R) (hpack : ∀ x y, F.out (pack x y) = (x, y)) (N : Nat) (hps : Nat.ble F.ps.length fn.ntmps = true) (hbs : Nat.ble F.bs.length 1000 = true)
   {rcv : FuncId → Bool} (hcallr : ∀ f, rcv f = true → ∀ (args : Array Value) (w : World), (callFunc f args).run P w = .ok (.enter f args) w) (hrcv : ∀ f, rcv f = true → ∀ (caps : Array Value) (w : World), CallsD P f caps .returning w fun e u w' => (∃ v, e = .returned v) ∧ u = .returning ∧ w' = w)
   (hrunC : ∀ x y z, F.f x y = some z → ∃ sE, endD rcv E N fn c (start fn F.ps F.bs x y) = some sE ∧ resD E fn F pack sE = some z) (hkp : keptF F.bs F.cs = false) : Sound P G B0 f F := by
 refine ⟨hcall, fun M w g vs x y z hG hB hfr hrun => ?_⟩
 refine calls_of_wp_defers hf hb ?_
 obtain ⟨sE, hrun, hres⟩ := hrunC x y z hrun
 · have hlen : vs.length = F.ps.length := by
     have := hfr.args.len
     rw [← this]
     have hl : ∀ (l : List Sl) (x : SV l), (lays id l x).length = l.length := fun l => by
       induction l with
       | nil => intro _; rfl
       | cons s l ih => intro x; show (lays id l x.2).length + 1 = _; rw [ih]; rfl
     exact hl _ _
   have hps' : vs.length ≤ fn.ntmps := by rw [hlen]; exact Nat.le_of_ble_eq_true hps
   have hbs' : F.bs.length ≤ 1000 := Nat.le_of_ble_eq_true hbs
   have hM : ∀ b o, Mof (fun b o => M b o ∧ ¬ Xof g b) g b o ↔ M b o := by
     intro b o
     constructor
     · rintro (h | ⟨r, x, h1, h2, h3⟩)
       · exact h.1
       · exact (hfr.chg _ _ _ _ h1 h2).2 h3
     · intro h
       by_cases hX : Xof g b
       · obtain ⟨r, x, h1, h2⟩ := hX
         exact .inr ⟨r, x, h1, h2, (hfr.chg _ _ _ _ h1 h2).1 h⟩
       · exact .inl ⟨h, hX⟩
   have eM : Mof (fun b o => M b o ∧ ¬ Xof g b) g = M := funext fun b => funext fun o => propext (hM b o)
   have hsim : Sim [] G B0 (fun b o => M b o ∧ ¬ Xof g b) w g g (start fn F.ps F.bs x y) { tmps := vs.toArray ++ Array.replicate (fn.ntmps - vs.toArray.size) undef, defers := [] } w := by
     refine { defers := rfl, sz := ?_, fr := ?_, inb := ?_, hp := ?_, low := ?_, inj := hfr.inj, row := hfr.row, m0 := fun b o h => ⟨hfr.mlt _ _ h.1, h.2⟩, pin := fun _ _ h _ => h, gin := fun r x h _ => Nat.lt_of_lt_of_le (hfr.dom r x h) hbs', gil := fun b ⟨r, x, h1, h2⟩ => (hfr.low _ _ _ h1 h2).1, ext := ExtX.refl _ _, stp := Step.refl _ _, gg := hG, b0 := hB }
     · show (vs.toArray ++ Array.replicate (fn.ntmps - vs.toArray.size) undef).size = fn.ntmps
       simp; omega
     · intro t d h
       rw [eM]
       obtain ⟨_, v, h1, h2⟩ := prms_get F.ps 0 x vs hfr.args t d h
       rw [Nat.sub_zero] at h1
       have hlt := (List.getElem?_eq_some_iff.1 h1).1
       have : (vs.toArray ++ Array.replicate (fn.ntmps - vs.toArray.size) undef).getD t undef = v := by
         rw [Array.getD_eq_getD_getElem?, Array.getElem?_append_left (by simpa using hlt), List.getElem?_toArray, h1]; rfl
       show RepD M w g d ((vs.toArray ++ Array.replicate (fn.ntmps - vs.toArray.size) undef).getD t undef)
       rw [this]; exact h2
     · intro t d h
       obtain ⟨_, v, h1, _⟩ := prms_get F.ps 0 x vs hfr.args t d h
       rw [Nat.sub_zero] at h1
       have hlt := (List.getElem?_eq_some_iff.1 h1).1
       show t < fn.ntmps
       omega
     · intro r blk h
       rw [eM]
       obtain ⟨_, h1⟩ := blks_get F.bs 0 y r blk h
       rw [Nat.sub_zero] at h1
       exact hfr.res r blk h1
     · exact fun r x b h1 h2 => ⟨(hfr.low _ _ _ h1 h2).1, (hfr.low _ _ _ h1 h2).2, .inl ⟨r, x, h1, h2⟩⟩
   refine endD_wp hE hcallr N fn c _ _ _ _ hsim hrun fun e g' a w' f' caps hr he hs => ?_
   obtain ⟨vs', g'', h1, h2, h3, h4, h5, h6⟩ := resD_sound hE hs hpack hfr.dom hM hres
   have key : ∀ R : Ending → World → Prop, R (.returned (rets vs')) w' → Go.Leaves P fn a.tmps R a.defers .returning w' := by
     intro R hR
     rw [hs.defers]
     refine leaves_cons (by simp) (f := f') (args := caps) ?_ ((hrcv f' hr caps w').mono ?_)
     · have := hcallr f' hr caps w'
       simp [invoke, this]
     · rintro e u' w'' ⟨⟨v, rfl⟩, rfl, rfl⟩
       exact ⟨_, h1, hR⟩
   have facts : ∃ vs'' g'', Ending.returned (rets vs') = .returned (rets vs'') ∧ ExtX (Xof g) w w' ∧ Step M w (Mafter M g g'') w' ∧ Frag B0 (Mafter M g g'') w' g'' F.rs F.cs (F.out z).1 (F.out z).2 vs'' ∧
     (∀ r x, g r = some x → (isBM x.v = true ∨ keptF F.bs F.cs = true) → g'' r = some x) ∧ ∀ b, Xof g'' b → Xof g b ∨ w.heap.size ≤ b := ⟨vs', g'', rfl, h2, h3, h4, fun r x e1 e2 => h5 r x e1 (e2.elim id fun e => by rw [hkp] at e; cases e), h6⟩
   rcases he with rfl | rfl <;> exact key _ facts
end
end Go.Proofs.YtahjncefiegflaaGreatDoor

