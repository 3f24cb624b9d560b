/- Loops of the machine of values, each by a plain function: what stands at a loop's head is read by a shape. -/
import Derived.Test.YtbekhaioddmliaaDoorQBm15
namespace Go.Proofs.YtbekhaioddmliaaDoor
set_option linter.unusedVariables false
set_option linter.unusedSimpArgs false
open Go Go.RowKit
def cAt : Code → List Bool → Code
  | c, [] => c
  | .seq a _, false :: p => cAt a p
  | .seq _ b, true :: p => cAt b p
  | .cond _ a _, false :: p => cAt a p
  | .cond _ _ b, true :: p => cAt b p
  | .block _ c, _ :: p => cAt c p
  | .loop c, _ :: p => cAt c p
  | c, _ => c
def bodyOf (f : Func) : Code := match f.body with
  | some c => c
  | none => .skip
/-- A slot's content of a shape. -/
def un1 : (s : Sl) → s.den → D
  | .dead, _ => .dead
  | .skip, _ => .skip
  | .nilS, _ => .nilS
  | .nilP, _ => .nilP
  | .v t, x => .v t x
  | .at_ t, x => .at_ t x
  | .row r, _ => .row r
  | .mref r, _ => .mref r
  | .box r o, _ => .box r o
  | .fnc f l, _ => .fnc f l
def pr1 : (s : Sl) → D → Option s.den
  | .v t, d => match d with
    | .v t' x => if h : t' = t then some (h ▸ x) else none
    | _ => none
  | .at_ t, d => match d with
    | .at_ t' x => if h : t' = t then some (h ▸ x) else none
    | _ => none
  | .dead, d => match d with
    | .dead => some ()
    | _ => none
  | .skip, d => match d with
    | .skip => some ()
    | _ => none
  | .nilS, d => match d with
    | .nilS => some ()
    | _ => none
  | .nilP, d => match d with
    | .nilP => some ()
    | _ => none
  | .row r, d => match d with
    | .row r' => if r' = r then some () else none
    | _ => none
  | .box r o, d => match d with
    | .box r' o' => if r' = r then (if o' = o then some () else none) else none
    | _ => none
  | .mref r, d => match d with
    | .mref r' => if r' = r then some () else none
    | _ => none
  | .fnc f l, d => match d with
    | .fnc f' l' => if f' = f then (if l' = l then some () else none) else none
    | _ => none
theorem pr1_un (s : Sl) (d : D) (x : s.den) (h : pr1 s d = some x) : un1 s x = d := by
  cases s <;> cases d <;> simp only [pr1, reduceCtorEq] at h <;>
    (repeat' (split at h)) <;> first | (subst_vars; cases h; rfl) | cases h
def unL : (l : List Sl) → SV l → List D
  | [], _ => []
  | s :: l, x => un1 s x.1 :: unL l x.2
noncomputable def prL (l : List Sl) : List D → Option (SV l) :=
  List.rec (motive := fun l => List D → Option (SV l))
    (fun ds => match ds with | [] => some () | _ :: _ => none)
    (fun s _ ih ds => match ds with
      | d :: ds => match pr1 s d with
        | some x => match ih ds with
          | some y => some (x, y)
          | none => none
        | none => none
      | [] => none) l
theorem prL_un : ∀ (l : List Sl) (ds : List D) (x : SV l), prL l ds = some x → unL l x = ds
  | [], [], _, _ => rfl
  | [], _ :: _, _, h => by cases h
  | _ :: _, [], _, h => by cases h
  | s :: l, d :: ds, x, h => by
    change (match pr1 s d with
        | some x => match prL l ds with
          | some y => some (x, y)
          | none => none
        | none => none) = some x at h
    split at h
    · rename_i a ha
      split at h
      · rename_i b hb
        cases h
        show un1 s a :: unL l b = _
        rw [pr1_un s d a ha, prL_un l ds b hb]
      · cases h
    · cases h
/-- Slots with their numbers. -/
@[reducible] def FV : List (Nat × Sl) → Type
  | [] => Unit
  | s :: l => s.2.den × FV l
def unF : (l : List (Nat × Sl)) → FV l → List (Nat × D)
  | [], _ => []
  | s :: l, x => (s.1, un1 s.2 x.1) :: unF l x.2
noncomputable def prF (l : List (Nat × Sl)) : List (Nat × D) → Option (FV l) :=
  List.rec (motive := fun l => List (Nat × D) → Option (FV l))
    (fun ds => match ds with | [] => some () | _ :: _ => none)
    (fun s _ ih ds => match ds with
      | d :: ds => match Nat.beq d.1 s.1, pr1 s.2 d.2 with
        | true, some x => match ih ds with
          | some y => some (x, y)
          | none => none
        | _, _ => none
      | [] => none) l
theorem prF_un : ∀ (l : List (Nat × Sl)) (ds : List (Nat × D)) (x : FV l), prF l ds = some x → unF l x = ds
  | [], [], _, _ => rfl
  | [], _ :: _, _, h => by cases h
  | _ :: _, [], _, h => by cases h
  | s :: l, d :: ds, x, h => by
    change (match Nat.beq d.1 s.1, pr1 s.2 d.2 with
        | true, some x => match prF l ds with
          | some y => some (x, y)
          | none => none
        | _, _ => none) = some x at h
    split at h
    · rename_i a he ha
      split at h
      · rename_i b hb
        cases h
        show (s.1, un1 s.2 a) :: unF l b = _
        rw [pr1_un s.2 d.2 a ha, prF_un l ds b hb, ← Nat.eq_of_beq_eq_true he]
      · cases h
    · cases h
def un2 : (s : Sb) → s.den → Blk
  | .none, _ => .cells []
  | .cells l, x => .cells (unL l x)
  | .map e, x => .map e x
  | .row e t ex, x => .row e t ex x
noncomputable def pr2 : (s : Sb) → Blk → Option s.den
  | .none, _ => none
  | .cells l, b => match b with
    | .cells ds => prL l ds
    | _ => none
  | .map e, b => match b with
    | .map e' m => if h : e' = e then some (h ▸ m) else none
    | _ => none
  | .row e t ex, b => match b with
    | .row e' t' ex' xs => if h : t' = t then (if e' = e then (if ex' = ex then some (h ▸ xs) else none) else none) else none
    | _ => none
theorem pr2_un (s : Sb) (b : Blk) (x : s.den) (h : pr2 s b = some x) : un2 s x = b := by
  cases s with
  | none => cases h
  | cells l => cases b with
    | cells ds => show Blk.cells (unL l x) = _; rw [prL_un l ds x h]
    | map e m => cases h
    | row => cases h
  | map e => cases b with
    | cells ds => cases h
    | map e' m =>
      simp only [pr2] at h
      split at h
      · subst_vars; cases h; rfl
      · cases h
    | row => cases h
  | row e t ex => cases b with
    | cells ds => cases h
    | map e' m => cases h
    | row e' t' ex' xs =>
      simp only [pr2] at h
      split at h
      · split at h
        · split at h
          · subst_vars; cases h; rfl
          · cases h
        · cases h
      · cases h
@[reducible] def HV : List (Nat × Sb) → Type
  | [] => Unit
  | s :: l => s.2.den × HV l
def unH : (l : List (Nat × Sb)) → HV l → List (Nat × Blk)
  | [], _ => []
  | s :: l, x => (s.1, un2 s.2 x.1) :: unH l x.2
noncomputable def prH (l : List (Nat × Sb)) : List (Nat × Blk) → Option (HV l) :=
  List.rec (motive := fun l => List (Nat × Blk) → Option (HV l))
    (fun ds => match ds with | [] => some () | _ :: _ => none)
    (fun s _ ih ds => match ds with
      | d :: ds => match Nat.beq d.1 s.1, pr2 s.2 d.2 with
        | true, some x => match ih ds with
          | some y => some (x, y)
          | none => none
        | _, _ => none
      | [] => none) l
theorem prH_un : ∀ (l : List (Nat × Sb)) (ds : List (Nat × Blk)) (x : HV l), prH l ds = some x → unH l x = ds
  | [], [], _, _ => rfl
  | [], _ :: _, _, h => by cases h
  | _ :: _, [], _, h => by cases h
  | s :: l, d :: ds, x, h => by
    change (match Nat.beq d.1 s.1, pr2 s.2 d.2 with
        | true, some x => match prH l ds with
          | some y => some (x, y)
          | none => none
        | _, _ => none) = some x at h
    split at h
    · rename_i a he ha
      split at h
      · rename_i b hb
        cases h
        show (s.1, un2 s.2 a) :: unH l b = _
        rw [pr2_un s.2 d.2 a ha, prH_un l ds b hb, ← Nat.eq_of_beq_eq_true he]
      · cases h
    · cases h
section
variable {R : Type}
/-- A loop where a state has a shape: a plain function; elsewhere: what stands behind. -/
noncomputable def LPc (n0 : Nat) (fs : List (Nat × Sl)) (bs : List (Nat × Sb)) (F : FV fs → HV bs → (Ex → St → Option R) → Option R) (G : St → (Ex → St → Option R) → Option R) (st : St) (k : Ex → St → Option R) : Option R :=
  match st with
  | ⟨n, fr, hp⟩ => match Nat.beq n n0 with
    | true => match prF fs fr with
      | some x => match prH bs hp with
        | some y => F x y k
        | none => G st k
      | none => G st k
    | false => G st k
theorem LPc_eq (n0 : Nat) (fs : List (Nat × Sl)) (bs : List (Nat × Sb)) (F : FV fs → HV bs → (Ex → St → Option R) → Option R) (G : St → (Ex → St → Option R) → Option R) (KR : St → Option R)
    (h : ∀ x y k, (∀ st, k .ret st = KR st) → G ⟨n0, unF fs x, unH bs y⟩ k = F x y k) (G' : St → (Ex → St → Option R) → Option R) (st : St) (k : Ex → St → Option R) (hk : ∀ st, k .ret st = KR st) (hG : G' st k = G st k) : LPc n0 fs bs F G' st k = G st k := by
  obtain ⟨n, fr, hp⟩ := st
  unfold LPc
  dsimp only
  split
  · rename_i hn
    have := Nat.eq_of_beq_eq_true hn
    subst this
    split
    · rename_i x hx
      split
      · rename_i y hy
        rw [← h x y k hk, prF_un fs fr x hx, prH_un bs hp y hy]
      · exact hG
    · exact hG
  · exact hG
/-- The code's run with each loop by another meaning. -/
noncomputable def execL (LP : Nat → Code → St → (Ex → St → Option R) → Option R) (E : Env) (c : Code) : Nat → St → (Ex → St → Option R) → Option R :=
  Code.rec (motive := fun _ => Nat → St → (Ex → St → Option R) → Option R)
    (fun _ st k => k .normal st)
    (fun id ops draw _ st k => match draw with
      | false => opsD E ops.toList ops.toList st (k .normal)
      | true => match ops.toList.all (quietOp E) && Region.lexB .any ops with
        | true => opsD E ops.toList ops.toList st (k .normal)
        | false => match Region.noSelect ops with
          | true => drawD E ops (E.hint (100000 + id)).dm st (k .normal)
          | false => none)
    (fun _ _ iha ihb i st k => iha i st fun e st => match e with
      | .normal => ihb i st k
      | .exit j => k (.exit j) st
      | .ret => k .ret st)
    (fun c _ _ iht ihe i st k => match st.ev c with
      | .v .bool c => br c (iht i st k) (ihe i st k)
      | .bl true => iht i st k
      | .bl false => ihe i st k
      | _ => none)
    (fun id _ ih _ st k => ih id st fun e st => match e with
      | .normal => k .normal st
      | .exit j => if j = id then k .normal st else k (.exit j) st
      | .ret => k .ret st)
    (fun c _ i st k => st.headK (E.hint i) fun st => LP i c st k)
    (fun _ _ _ _ _ _ _ _ _ => none)
    (fun id _ st k => k (.exit id) st)
    (fun _ _ _ _ _ => none)
    (fun _ _ _ _ => none)
    (fun _ _ _ _ => none)
    (fun _ st k => k .ret st)
    (fun _ _ _ _ => none) c
noncomputable def loops (c : Code) : Nat → List (Nat × Code) :=
  Code.rec (motive := fun _ => Nat → List (Nat × Code)) (fun _ => []) (fun _ _ _ _ => []) (fun _ _ a b i => a i ++ b i) (fun _ _ _ a b i => a i ++ b i)
    (fun id _ a _ => a id) (fun c a i => (i, c) :: a i) (fun _ _ _ _ _ _ _ => []) (fun _ _ => []) (fun _ _ _ => []) (fun _ _ => []) (fun _ _ => []) (fun _ => []) (fun _ _ => []) c
def LoopsOk (LP : Nat → Code → St → (Ex → St → Option R) → Option R) (E : Env) (N : Nat) (KR : St → Option R) : List (Nat × Code) → Prop
  | [] => True
  | p :: l => (∀ st k, (∀ st, k .ret st = KR st) → LP p.1 p.2 st k = iter (E.hint p.1) (exec E N p.2 p.1) N st k) ∧ LoopsOk LP E N KR l
theorem LoopsOk.left {LP : Nat → Code → St → (Ex → St → Option R) → Option R} {E : Env} {N : Nat} {KR : St → Option R} : ∀ {l l' : List (Nat × Code)}, LoopsOk LP E N KR (l ++ l') → LoopsOk LP E N KR l
  | [], _, _ => trivial
  | _ :: _, _, h => ⟨h.1, LoopsOk.left h.2⟩
theorem LoopsOk.right {LP : Nat → Code → St → (Ex → St → Option R) → Option R} {E : Env} {N : Nat} {KR : St → Option R} : ∀ {l l' : List (Nat × Code)}, LoopsOk LP E N KR (l ++ l') → LoopsOk LP E N KR l'
  | [], _, h => h
  | _ :: l, _, h => LoopsOk.right (l := l) h.2
theorem execL_eq (LP : Nat → Code → St → (Ex → St → Option R) → Option R) (E : Env) (N : Nat) (KR : St → Option R) (c : Code) : ∀ (i : Nat), LoopsOk LP E N KR (loops c i) →
    ∀ (st : St) (k : Ex → St → Option R), (∀ st, k .ret st = KR st) → execL LP E c i st k = exec E N c i st k := by
  induction c with
  | seq a b iha ihb =>
    intro i h st k hk
    show execL LP E a i st _ = exec E N a i st _
    have e : (fun e st => match e with | .normal => execL LP E b i st k | .exit j => k (.exit j) st | .ret => k .ret st : Ex → St → Option R) = (fun e st => match e with | .normal => exec E N b i st k | .exit j => k (.exit j) st | .ret => k .ret st) := by
      funext e st
      cases e with
      | normal => exact ihb i (LoopsOk.right (l := loops a i) h) st k hk
      | exit j => rfl
      | ret => rfl
    exact (congrArg (execL LP E a i st) e).trans (iha i (LoopsOk.left h) st _ hk)
  | cond o a b iha ihb =>
    intro i h st k hk
    show (match st.ev o with
      | .v .bool c => br c (execL LP E a i st k) (execL LP E b i st k)
      | .bl true => execL LP E a i st k
      | .bl false => execL LP E b i st k
      | _ => none) = (match st.ev o with
      | .v .bool c => br c (exec E N a i st k) (exec E N b i st k)
      | .bl true => exec E N a i st k
      | .bl false => exec E N b i st k
      | _ => none)
    rw [iha i (LoopsOk.left h) st k hk, ihb i (LoopsOk.right (l := loops a i) h) st k hk]
  | block id c ih =>
    intro i h st k hk
    exact ih id h st _ hk
  | loop c ih =>
    intro i h st k hk
    show st.headK (E.hint i) (fun st => LP i c st k) = st.headK (E.hint i) (fun st => iter (E.hint i) (exec E N c i) N st k)
    rw [headK_eq, headK_eq]
    exact h.1 _ k hk
  | _ => intros; rfl
noncomputable def roundK (h : Hint) (I : St → Option R) (KX : Nat → St → Option R) (KR : St → Option R) : Ex → St → Option R := fun e st => match e with
  | .normal => st.headK h I
  | .exit j => st.tailK h (KX j)
  | .ret => KR st
theorem iter_link {S : Type} (h : Hint) (b b' : St → (Ex → St → Option R) → Option R) (KR : St → Option R) (hb : ∀ st k, (∀ st, k .ret st = KR st) → b' st k = b st k) (HD : S → St) (k : Ex → St → Option R)
    (hk : ∀ st, k .ret st = KR st) (T : (S → Option R) → S → Option R) (L : Nat → S → Option R) (h0 : ∀ s, L 0 s = none) (hs : ∀ n s, L (n + 1) s = T (L n) s)
    (step : ∀ I s, b' (HD s) (roundK h I (fun j => k (.exit j)) KR) = T (fun s => I (HD s)) s) : ∀ n s, iter h b n (HD s) k = L n s := by
  intro n
  induction n with
  | zero => intro s; rw [h0]; rfl
  | succ n ih =>
    intro s
    have e : (fun e st => match e with | .normal => st.headK h fun st => iter h b n st k | .exit j => st.tailK h (k (.exit j)) | .ret => k .ret st : Ex → St → Option R) = roundK h (fun st => iter h b n st k) (fun j => k (.exit j)) KR := by
      funext e st
      cases e with
      | normal => rfl
      | exit j => rfl
      | ret => exact hk st
    have e2 : (fun s => iter h b n (HD s) k) = L n := funext ih
    exact (congrArg (b (HD s)) e).trans ((hb _ _ fun _ => rfl).symm.trans ((step _ s).trans ((congrArg (fun f => T f s) e2).trans (hs n s).symm)))
end
noncomputable def runL (E : Env) (f : Func) (F : AF) (pack : SV F.rs → BV F.cs → F.R) (LP : Nat → Code → St → (Ex → St → Option F.R) → Option F.R) (x : SV F.ps) (y : BV F.bs) : Option F.R :=
  match f.body, Nat.ble F.ps.length f.ntmps, Nat.ble F.bs.length 1000 with
  | some c, true, true => amapK id (start f F.ps F.bs x y).fr fun fr => amapBK id (start f F.ps F.bs x y).hp fun hp => execL LP E c 0 ⟨f.ntmps, fr, hp⟩ fun e st => match e with
    | .exit _ => none
    | .normal => resD E f F pack st
    | .ret => resD E f F pack st
  | _, _, _ => none
theorem runL_eq (E : Env) (N : Nat) (f : Func) (F : AF) (pack : SV F.rs → BV F.cs → F.R) (LP : Nat → Code → St → (Ex → St → Option F.R) → Option F.R) (h : LoopsOk LP E N (resD E f F pack) (loops (bodyOf f) 0)) (x : SV F.ps) (y : BV F.bs) :
    runD E N f F pack x y = runL E f F pack LP x y := by
  unfold runD runL
  unfold bodyOf at h
  cases hb : f.body with
  | none => rfl
  | some c =>
    rw [hb] at h
    cases Nat.ble F.ps.length f.ntmps <;> cases Nat.ble F.bs.length 1000 <;> first | rfl | skip
    simp only [amapK_eq, amapBK_eq]
    exact (execL_eq LP E N (resD E f F pack) c 0 h _ _ fun _ => rfl).symm
end Go.Proofs.YtbekhaioddmliaaDoor
