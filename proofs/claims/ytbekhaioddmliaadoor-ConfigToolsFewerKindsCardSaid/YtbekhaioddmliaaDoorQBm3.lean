/- The relation between the machine of values and the model: what every slot holds, and what the names name. -/
import Derived.Test.YtbekhaioddmliaaDoorQBm2
import Derived.WalkKit
namespace Go.Proofs.YtbekhaioddmliaaDoor
set_option linter.unusedVariables false
set_option linter.unusedSimpArgs false
open Go Go.RowKit

/-- The cells of a zero value. -/
def zeroCG (f : RC → List Value) : Ty → List Value
  | .u8 => [.int .u8 0]
  | .int k => [.int k 0]
  | .bool => [.bool false]
  | .str => [.string ⟨#[]⟩]
  | .sl _ => [.slice none 0 0]
  | .pr a b => zeroCG f a ++ zeroCG f b
  | .un => []
  | .mp _ => [.map none]
  | .ptr _ => [.pointer none]
  | .np _ => [.pointer none]
  | .clo _ _ => [.nilFunc]
  | .rc i => f i
def zeroCN : Nat → Ty → List Value
  | 0 => zeroCG fun _ => []
  | n + 1 => zeroCG fun i => zeroCN n i.body
def zeroC : Ty → List Value := zeroCN 2
def kindOk : Ty → TypeDesc → Bool
  | .u8, .int .u8 => true
  | .int k, .int j => k == j
  | .bool, .bool => true
  | .str, .string => true
  | .sl _, .slice _ => true
  | .pr _ _, .struct _ => true
  | .un, .struct _ => true
  | .mp _, .map _ _ => true
  | .ptr _, .pointer _ => true
  | .np _, .pointer _ => true
  | .clo _ _, .func _ _ _ => true
  | .rc _, .struct _ => true
  | _, _ => false
def TyOk (P : Program) (T : TypeId) (t : Ty) : Prop :=
  ∃ d, (P.info? T).map (fun i => (i.size, i.zero)) = some (t.sz, some (mkV t (zeroC t))) ∧ P.underlying T = some d ∧ kindOk t d = true
def ElOk (P : Program) (T e : TypeId) (t : Ty) : Prop :=
  TyOk P e t ∧ ∃ bytes, ElemT P T e t.sz bytes ∧ bytes ≤ 24 * t.sz
def FldOk (P : Program) (T : TypeId) (f off : Nat) (t : Ty) : Prop :=
  ∃ fs fd, P.underlying T = some (.struct fs) ∧ fs[f]? = some fd ∧ fd.offset = off ∧ TyOk P fd.type t ∧ 0 < t.sz
/-- Of a map type: its keys are strings. -/
def MpOk (P : Program) (T : TypeId) (e : Ty) : Prop := ∃ k el, P.underlying T = some (.map k el) ∧ P.underlying k = some .string ∧ TyOk P el e
/-- The cells of plain fields. -/
def cellsOf : (t : Ty) → t.den → List Value
  | .u8, x => [.int .u8 x.toNat]
  | .int k, x => [.int k x]
  | .bool, x => [.bool x]
  | .str, x => [.string ⟨x.toArray⟩]
  | .pr a b, x => cellsOf a x.1 ++ cellsOf b x.2
  | _, _ => []
def flatCmp : Ty → Bool
  | .u8 => true
  | .int _ => true
  | .bool => true
  | .str => true
  | .pr a b => flatCmp a && flatCmp b
  | .un => true
  | _ => false
/-- Of a struct type: the model compares two of it as the machine does. -/
def CmpOk (P : Program) (T : TypeId) (t : Ty) : Prop := flatCmp t = true ∧ t.isAgg = true ∧ ∀ (x y : t.den) (ox oy : Operand) (w : World),
  (do eqGuard .eql T ox oy (.agg (cellsOf t x).toArray) (.agg (cellsOf t y).toArray); binOp .eql T (.agg (cellsOf t x).toArray) (.agg (cellsOf t y).toArray) : Sem Value).run P w = .ok (.bool (eqb t x y)) w ∧
  (do eqGuard .neq T ox oy (.agg (cellsOf t x).toArray) (.agg (cellsOf t y).toArray); binOp .neq T (.agg (cellsOf t x).toArray) (.agg (cellsOf t y).toArray) : Sem Value).run P w = .ok (.bool (!(eqb t x y))) w

/-- All that lay in memory lies there as it did, but for some blocks. -/
structure ExtX (X : Nat → Prop) (w w' : World) : Prop where
  os : w'.os = w.os
  tape : w'.tape = w.tape
  output : w'.output = w.output
  size : w.heap.size ≤ w'.heap.size
  block : ∀ k, k < w.heap.size → ¬ X k → w'.heap[k]? = w.heap[k]?
theorem ExtX.of_ext {X : Nat → Prop} {w w' : World} (h : Ext w w') : ExtX X w w' := ⟨h.os, h.tape, h.output, h.size, fun k hk _ => h.block k hk⟩
theorem ExtX.ext {X : Nat → Prop} {w w' : World} (h : ExtX X w w') (hX : ∀ b, ¬ X b) : Ext w w' := ⟨h.os, h.tape, h.output, h.size, fun k hk => h.block k hk (hX k)⟩
theorem ExtX.refl (X : Nat → Prop) (w : World) : ExtX X w w := ⟨rfl, rfl, rfl, Nat.le_refl _, fun _ _ _ => rfl⟩
theorem ExtX.trans {X Y : Nat → Prop} {a b c : World} (h : ExtX X a b) (k : ExtX Y b c) (hY : ∀ n, n < a.heap.size → Y n → X n) : ExtX X a c :=
  ⟨k.os.trans h.os, k.tape.trans h.tape, k.output.trans h.output, Nat.le_trans h.size k.size, fun n hn hx => (k.block n (Nat.lt_of_lt_of_le hn h.size) fun hy => hx (hY n hn hy)).trans (h.block n hn hx)⟩
theorem cell_of_block {w w' : World} {ad : Addr} (h : w'.heap[ad.block]? = w.heap[ad.block]?) : w'.cell? ad = w.cell? ad := World.cell?_of_block h

/-- The blocks that have a name. -/
def Xof (g : Gh) (b : Nat) : Prop := ∃ r x, g r = some x ∧ x.blk = some b
/-- What may change: what others may change, and what has a name. -/
def Mof (M0 : Nat → Nat → Prop) (g : Gh) (b o : Nat) : Prop := M0 b o ∨ ∃ r x, g r = some x ∧ x.blk = some b ∧ x.lo ≤ o
/-- What a name stands for. -/
def RepB (M : Nat → Nat → Prop) (w : World) (g : Gh) (x : GB) : Blk → Prop
  | .cells ds => ∃ b vs el, x = ⟨some b, 0, boxV b⟩ ∧ w.heap[b]? = some (.cells vs el) ∧ All2 (RepD0 M w g) ds vs.toList
  | .map e m => ∃ b es c, x = ⟨some b, 0, .map (some b)⟩ ∧ w.heap[b]? = some (.map es c) ∧ All2 (fun x y => y.key = .string ⟨x.1.toArray⟩ ∧ RepV M w e x.2 y.val) m es.toList
  | .row e t ex xs => 0 < t.sz ∧ ∃ cs, w.ownsRow 0 e t.sz x.v xs.length cs ∧ x.blk = x.v.ownBlock ∧ x.lo = (match ex with | true => 0 | false => xs.length * t.sz) ∧
      ∀ i (h : i < xs.length), RepC M w t xs[i] ((cs.drop (i * t.sz)).take t.sz)
/-- A box's or a map's value. -/
def isBM : Value → Bool
  | .pointer _ => true
  | .map _ => true
  | _ => false
/-- The block of the name number j. -/
def blkAt (ν : Nat → Nat) : (l : List Sb) → BV l → Nat → Option Blk
  | [], _, _ => none
  | s :: _, y, 0 => layB ν s y.1
  | _ :: l, y, n + 1 => blkAt ν l y.2 n
/-- A fragment of memory: values, and what has the names 0, 1, .. -/
structure Frag (B0 : Nat) (M : Nat → Nat → Prop) (w : World) (g : Gh) (ps : List Sl) (bs : List Sb) (x : SV ps) (y : BV bs) (vs : List Value) : Prop where
  args : All2 (RepD0 M w g) (lays id ps x) vs
  res : ∀ r blk, blkAt id bs y r = some blk → ∃ gx, g r = some gx ∧ RepB M w g gx blk
  dom : ∀ r gx, g r = some gx → r < bs.length
  inj : ∀ r r' x x' b, g r = some x → g r' = some x' → x.blk = some b → x'.blk = some b → r = r'
  low : ∀ r x b, g r = some x → x.blk = some b → B0 ≤ b ∧ b < w.heap.size
  chg : ∀ r x b o, g r = some x → x.blk = some b → (M b o ↔ x.lo ≤ o)
  mlt : ∀ b o, M b o → b < w.heap.size
  row : ∀ r x b, g r = some x → x.blk = some b → 0 < x.lo → ∀ es c, w.heap[b]? ≠ some (.map es c)
/-- What may change behind a call. -/
def Mafter (M : Nat → Nat → Prop) (g g' : Gh) (b o : Nat) : Prop := (M b o ∧ ¬ Xof g b) ∨ ∃ r x, g' r = some x ∧ x.blk = some b ∧ x.lo ≤ o
def rets (vs : List Value) : Value := if h : vs.length = 1 then vs[0] else .tuple vs.toArray
/-- A function of the program does what is said. -/
def Sound (P : Program) (G : World → Prop) (B0 : Nat) (f : FuncId) (F : AF) : Prop :=
  (∀ (args : Array Value) (w : World), (callFunc f args).run P w = .ok (.enter f args) w) ∧
  ∀ (M : Nat → Nat → Prop) (w : World) (g : Gh) (vs : List Value) (x : SV F.ps) (y : BV F.bs) (z : F.R), G w → B0 ≤ w.heap.size → Frag B0 M w g F.ps F.bs x y vs → F.f x y = some z →
    Calls P f vs.toArray w fun e w' => ∃ vs' g', e = .returned (rets vs') ∧ ExtX (Xof g) w w' ∧ Step M w (Mafter M g g') w' ∧ Frag B0 (Mafter M g g') w' g' F.rs F.cs (F.out z).1 (F.out z).2 vs' ∧
      (∀ r x, g r = some x → isBM x.v = true → g' r = some x) ∧ ∀ b, Xof g' b → Xof g b ∨ w.heap.size ≤ b
structure EnvOk (P : Program) (G : World → Prop) (B0 : Nat) (E : Env) : Prop where
  ty : ∀ T t, E.ty T = some t → TyOk P T t
  el : ∀ T e t, E.el T = some (e, t) → ElOk P T e t
  fld : ∀ T f off t, E.fld T f = some (off, t) → FldOk P T f off t
  mp : ∀ T e, E.ty T = some (.mp e) → MpOk P T e
  bld : ∀ T t, E.ty T = some t → t.isAgg = true → ∃ fs places, P.underlying T = some (.struct fs) ∧ fs.toList.mapM (fun f => (P.info? f.type).map fun i => (f.offset, i.size)) = some places
  cmp : ∀ T t, E.cmp T = some t → CmpOk P T t
  fn : ∀ f q F, E.fn f q = some F → Sound P G B0 f F
  stable : ∀ w w' X, G w → ExtX X w w' → (∀ b, X b → B0 ≤ b) → G w'
  mixed : P.follows .mixedOrders = true
structure Sim (G : World → Prop) (B0 : Nat) (M0 : Nat → Nat → Prop) (w0 : World) (gi : Gh) (g : Gh) (st : St) (a : Act) (w : World) : Prop where
  defers : a.defers = []
  sz : a.tmps.size = st.n
  fr : ∀ t d, aget st.fr t = some d → RepD (Mof M0 g) w g d (a.tmps.getD t undef)
  inb : ∀ t d, aget st.fr t = some d → t < st.n
  hp : ∀ r blk, aget st.hp r = some blk → ∃ x, g r = some x ∧ RepB (Mof M0 g) w g x blk
  low : ∀ r x b, g r = some x → x.blk = some b → B0 ≤ b ∧ b < w.heap.size ∧ (Xof gi b ∨ w0.heap.size ≤ b)
  inj : ∀ r r' x x' b, g r = some x → g r' = some x' → x.blk = some b → x'.blk = some b → r = r'
  row : ∀ r x b, g r = some x → x.blk = some b → 0 < x.lo → ∀ es c, w.heap[b]? ≠ some (.map es c)
  m0 : ∀ b o, M0 b o → b < w0.heap.size ∧ ¬ Xof gi b
  pin : ∀ r x, gi r = some x → isBM x.v = true → g r = some x
  gin : ∀ r x, gi r = some x → isBM x.v = true → r < 1000
  gil : ∀ b, Xof gi b → B0 ≤ b
  ext : ExtX (Xof gi) w0 w
  stp : Step (Mof M0 gi) w0 (Mof M0 g) w
  gg : G w0
  b0 : B0 ≤ w0.heap.size
/-- What a reading can see of a world is the same in another one: what stays, and what has one of these names. -/
structure KeepR (M : Nat → Nat → Prop) (g : Gh) (hp : List (Nat × Blk)) (w w' : World) : Prop where
  cell : ∀ ad u, w.cell? ad = some u → ¬ M ad.block ad.off → w'.cell? ad = some u
  map : ∀ b es c, w.heap[b]? = some (.map es c) → ¬ M b 0 → w'.heap[b]? = some (.map es c)
  nm : ∀ r blk x b, aget hp r = some blk → g r = some x → x.blk = some b → b < w.heap.size → w'.heap[b]? = w.heap[b]?
theorem KeepR.of_ext {M : Nat → Nat → Prop} {g : Gh} {hp : List (Nat × Blk)} {w w' : World} (h : Ext w w') : KeepR M g hp w w' :=
  ⟨fun _ _ a _ => h.cell a, fun b _ _ a _ => (h.block b (lt_of_map a)).trans a, fun _ _ _ b _ _ _ hb => h.block b hb⟩
theorem KeepR.step {M : Nat → Nat → Prop} {g : Gh} {hp : List (Nat × Blk)} {w w' : World} (h : KeepR M g hp w w') : Step M w M w' :=
  ⟨fun _ _ a b => ⟨h.cell _ _ a b, b⟩, fun _ _ _ a b => ⟨h.map _ _ _ a b, b⟩⟩
theorem KeepR.own {M : Nat → Nat → Prop} {g : Gh} {hp : List (Nat × Blk)} {w w' : World} (h : KeepR M g hp w w') {r : Nat} {blk : Blk} {x : GB} (h1 : aget hp r = some blk) (h2 : g r = some x) (h3 : x.blk = x.v.ownBlock) {base : Nat} {e : TypeId} {sz n : Nat} {cs : List Value}
    (ho : w.ownsRow base e sz x.v n cs) : w'.ownsRow base e sz x.v n cs := by
  refine ⟨ho.1, ?_⟩
  rcases ho.2 with h0 | ⟨gg, cap, cur, h5, h6, h7, h8⟩
  · exact .inl h0
  · exact .inr ⟨gg, cap, cur, h5, h6, (h.nm r blk x gg h1 h2 (by rw [h3, h5]; rfl) (lt_of_map h7)).trans h7, h8⟩
def Gh.set (g : Gh) (r : Nat) (y : Option GB) : Gh := fun i => if i = r then y else g i
theorem Gh.set_same (g : Gh) (r : Nat) (y : Option GB) : g.set r y r = y := if_pos rfl
theorem Gh.set_other (g : Gh) {r i : Nat} (y : Option GB) (h : i ≠ r) : g.set r y i = g i := if_neg h
theorem Gh.set_self (g : Gh) (r : Nat) {y : Option GB} (h : g r = y) : g.set r y = g := by
  funext i; unfold Gh.set; split
  · rename_i e; rw [e, h]
  · rfl
section
variable {P : Program} {G : World → Prop} {B0 : Nat} {E : Env} {M0 : Nat → Nat → Prop} {w0 : World} {gi g : Gh} {st : St} {a : Act} {w : World}
theorem Addr.add_box (b o n : Nat) : ((⟨b, o, none⟩ : Addr).add n) = ⟨b, o + n, none⟩ := by unfold Addr.add; split <;> simp_all
theorem Sim.size (h : Sim G B0 M0 w0 gi g st a w) : w0.heap.size ≤ w.heap.size := h.ext.size
theorem Sim.mlt (hs : Sim G B0 M0 w0 gi g st a w) {b o : Nat} (h : Mof M0 g b o) : b < w.heap.size := by
  rcases h with h | ⟨r, x, h1, h2, _⟩
  · exact Nat.lt_of_lt_of_le (hs.m0 _ _ h).1 hs.size
  · exact (hs.low _ _ _ h1 h2).2.1
theorem Sim.m0x (hs : Sim G B0 M0 w0 gi g st a w) {b o r : Nat} {x : GB} (h : M0 b o) (h1 : g r = some x) (h2 : x.blk = some b) : False := by
  have h3 := hs.m0 _ _ h
  rcases (hs.low _ _ _ h1 h2).2.2 with h4 | h4
  · exact h3.2 h4
  · omega
/-- Of a block that has a name: what may change of it. -/
theorem Sim.chg (hs : Sim G B0 M0 w0 gi g st a w) {r b o : Nat} {x : GB} (h1 : g r = some x) (h2 : x.blk = some b) : Mof M0 g b o ↔ x.lo ≤ o := by
  constructor
  · rintro (h | ⟨r', x', h3, h4, h5⟩)
    · exact (hs.m0x h h1 h2).elim
    · have := hs.inj _ _ _ _ _ h1 h3 h2 h4
      subst this
      rw [h1] at h3
      cases h3
      exact h5
  · exact fun h => .inr ⟨r, x, h1, h2, h⟩
theorem Sim.slot (h : Sim G B0 M0 w0 gi g st a w) {t : Nat} {d : D} (hd : aget st.fr t = some d) : RepD (Mof M0 g) w g d (a.tmps.getD t undef) := h.fr t d hd
theorem repD_const {M : Nat → Nat → Prop} (v : Value) : RepD M w g (constD v) v := by
  cases v with
  | bool b => exact RepD0.toD (d := .bl b) rfl
  | int k n =>
    cases k
    case u8 =>
      simp only [constD]
      split
      · rename_i hn
        refine RepC.toV (t := .u8) rfl ?_
        show [Value.int .u8 n] = [Value.int .u8 (UInt8.ofNat n.toNat).toNat]
        have : ((UInt8.ofNat n.toNat).toNat : Int) = n := by simp; omega
        rw [this]
      · trivial
    all_goals exact RepC.toV (t := .int _) rfl rfl
  | string s =>
    refine RepC.toV (t := .str) rfl ?_
    show [Value.string s] = [Value.string ⟨s.data.toList.toArray⟩]
    simp
  | slice A n c =>
    cases A with
    | some ad => trivial
    | none =>
      match n, c with
      | 0, 0 => exact RepD0.toD (d := .nilS) rfl
      | n + 1, _ => trivial
      | 0, c + 1 => trivial
  | _ => trivial
theorem Sim.ev (h : Sim G B0 M0 w0 gi g st a w) (x : Operand) : RepD (Mof M0 g) w g (st.ev x) (a.eval x) := by
  cases x with
  | tmp t =>
    simp only [St.ev, Act.eval]
    split
    · rename_i d hd; exact h.slot hd
    · trivial
  | const v =>
    by_cases hv : v = .pointer none
    · subst hv; exact RepD0.toD (d := .nilP) rfl
    · have e : st.ev (.const v) = constD v := by
        unfold St.ev
        split <;> simp_all
      rw [e]; exact repD_const v
  | func f => exact RepC.toV (t := .clo f .un) rfl ⟨#[], rfl, rfl⟩
  | _ => trivial
theorem Sim.put (h : Sim G B0 M0 w0 gi g st a w) (dst : Option Tmp) {d : D} {v : Value} (hd : RepD (Mof M0 g) w g d v) : Sim G B0 M0 w0 gi g (st.put dst d) (a.put dst v) w := by
  cases dst with
  | none => exact h
  | some t =>
    unfold St.put
    dsimp only
    split
    · rename_i ht
      have ht' : t < st.n := by rw [← Nat.blt_eq]; exact ht
      refine { h with sz := ?_, fr := ?_, inb := ?_ }
      · show (a.tmps.setIfInBounds t v).size = st.n
        rw [Array.size_setIfInBounds]; exact h.sz
      · intro i d' hi
        change aget (aset st.fr t d) i = some d' at hi
        show RepD _ _ _ d' ((a.tmps.setIfInBounds t v).getD i undef)
        by_cases hit : i = t
        · subst hit
          rw [aget_aset_same] at hi
          cases hi
          have : (a.tmps.setIfInBounds i v).getD i undef = v := by
            rw [Array.getD_eq_getD_getElem?, Array.getElem?_setIfInBounds, if_pos rfl, if_pos (by rw [h.sz]; exact ht')]; rfl
          rw [this]; exact hd
        · rw [aget_aset_other _ _ hit] at hi
          have : (a.tmps.setIfInBounds t v).getD i undef = a.tmps.getD i undef := by
            rw [Array.getD_eq_getD_getElem?, Array.getElem?_setIfInBounds, if_neg (Ne.symm hit), ← Array.getD_eq_getD_getElem?]
          rw [this]; exact h.fr i d' hi
      · intro i d' hi
        change aget (aset st.fr t d) i = some d' at hi
        by_cases hit : i = t
        · subst hit; exact ht'
        · rw [aget_aset_other _ _ hit] at hi; exact h.inb i d' hi
    · rename_i ht
      have ht' : st.n ≤ t := Nat.le_of_not_lt fun h' => by rw [← Nat.blt_eq] at h'; rw [h'] at ht; cases ht
      have : a.put (some t) v = a := by
        have e : a.tmps.setIfInBounds t v = a.tmps := Array.setIfInBounds_eq_of_size_le (by rw [h.sz]; exact ht')
        show { a with tmps := a.tmps.setIfInBounds t v } = a
        rw [e]
      rw [this]; exact h
/-- A slot's content said in another way. -/
theorem Sim.reput (h : Sim G B0 M0 w0 gi g st a w) {t : Nat} {d : D} (hd : RepD (Mof M0 g) w g d (a.tmps.getD t undef)) : Sim G B0 M0 w0 gi g (st.put (some t) d) a w := by
  unfold St.put
  dsimp only
  split
  · rename_i ht
    refine { h with fr := ?_, inb := ?_ }
    · intro i d' hi
      change aget (aset st.fr t d) i = some d' at hi
      by_cases hit : i = t
      · subst hit
        rw [aget_aset_same] at hi
        cases hi
        exact hd
      · rw [aget_aset_other _ _ hit] at hi
        exact h.fr i d' hi
    · intro i d' hi
      change aget (aset st.fr t d) i = some d' at hi
      by_cases hit : i = t
      · subst hit; show i < st.n; rw [← Nat.blt_eq]; exact ht
      · rw [aget_aset_other _ _ hit] at hi; exact h.inb i d' hi
  · exact h
/-- A row reads as data, where its elements do not change. -/
theorem RepC.of_own {M : Nat → Nat → Prop} {t : Ty} {xs : List t.den} {base : Nat} {e : TypeId} {v : Value} {cs : List Value} (hz : 0 < t.sz) (ho : w.ownsRow base e t.sz v xs.length cs)
    (hm : ∀ b o, v.ownBlock = some b → o < xs.length * t.sz → ¬ M b o) (hr : ∀ i (h : i < xs.length), RepC M w t xs[i] ((cs.drop (i * t.sz)).take t.sz)) : RepC M w (.sl t) xs [v] := by
  obtain ⟨A, c, rfl, h1, h2, hrow⟩ := Row.of_own' ho
  refine ⟨A, c, rfl, h1, h2, fun i hi => ?_⟩
  have hlen := ho.1
  have hpos : i * t.sz + t.sz ≤ xs.length * t.sz := by
    have : (i + 1) * t.sz ≤ xs.length * t.sz := Nat.mul_le_mul_right _ hi
    rw [Nat.add_mul] at this
    omega
  have hne : cs ≠ [] := by rintro rfl; simp at hlen; omega
  obtain ⟨ad, rfl, hc⟩ := hrow hne
  refine ⟨ad, _, rfl, hr i hi, fun j u hu => ?_⟩
  have hj : j < t.sz := by
    rcases Nat.lt_or_ge j t.sz with h' | h'
    · exact h'
    · rw [List.getElem?_take, if_neg (by omega)] at hu; cases hu
  rw [List.getElem?_take, if_pos hj, List.getElem?_drop] at hu
  rw [add_of_add]
  refine ⟨hc _ _ hu, ?_⟩
  rcases ho.2 with ⟨e0, _⟩ | ⟨gg, cap, cur, e0, _⟩
  · cases e0
  · simp only [Value.slice.injEq, Option.some.injEq] at e0
    obtain ⟨e1, _, _⟩ := e0
    subst e1
    rw [Addr.add_box]
    exact hm _ _ rfl (by simp only [Nat.zero_add]; omega)
/-- A slot's content as data. -/
theorem Sim.dat (hs : Sim G B0 M0 w0 gi g st a w) {d : D} {v : Value} (h : RepD (Mof M0 g) w g d v) {t : Ty} {x : t.den} (hx : st.dat t d = some x) : RepV (Mof M0 g) w t x v := by
  cases d with
  | v t' y =>
    simp only [St.dat] at hx
    split at hx
    · rename_i e; subst e; cases hx; exact h
    · cases hx
  | row r =>
    simp only [St.dat] at hx
    split at hx
    · rename_i e t' xs hb
      split at hx
      · rename_i e'
        subst e'
        cases hx
        obtain ⟨gx, h1, hz, cs, h2, h3, h4, h5⟩ := hs.hp _ _ hb
        obtain ⟨gx', _, _, _, h6, h7, _⟩ := h
        rw [h1] at h6
        cases h6
        subst h7
        refine RepC.toV (t := .sl t') rfl (RepC.of_own hz h2 (fun b o hb ho hm => ?_) h5)
        have := (hs.chg h1 (by rw [h3]; exact hb)).1 hm
        have h4' : gx.lo = xs.length * t'.sz := h4
        change o < xs.length * t'.sz at ho
        omega
      · cases hx
    · cases hx
  | nilS =>
    simp only [St.dat] at hx
    split at hx
    · cases hx
      have h' : v = .slice none 0 0 := h
      subst h'
      exact RepC.toV (t := .sl _) rfl ⟨none, 0, rfl, Nat.le_refl _, Nat.zero_le _, fun i hi => absurd hi (by simp)⟩
    · cases hx
  | nilP =>
    simp only [St.dat] at hx
    split at hx
    · cases hx
      have h' : v = .pointer none := h
      subst h'
      exact RepC.toV (t := .np _) rfl rfl
    · cases hx
  | at_ t' y =>
    simp only [St.dat] at hx
    obtain ⟨ad, cs, rfl, b, c⟩ := h
    split at hx
    · rename_i e; subst e; cases hx
      exact RepC.toV (t := .ptr t') rfl ⟨ad, cs, rfl, b, c⟩
    · split at hx
      · rename_i e; subst e; cases hx
        exact RepC.toV (t := .np t') rfl ⟨ad, cs, rfl, b, c⟩
      · cases hx
  | bl b =>
    simp only [St.dat] at hx
    split at hx
    · cases hx
      have h' : v = .bool b := h
      subst h'
      exact RepC.toV (t := .bool) rfl rfl
    · cases hx
  | _ => simp [St.dat] at hx
/-- All that is known of memory is known of a later world that keeps it. -/
theorem RepB.step {M M' : Nat → Nat → Prop} {w' : World} (hs : Step M w M' w') {x : GB} (hb : ∀ b, x.blk = some b → w'.heap[b]? = w.heap[b]?) : ∀ {blk : Blk}, RepB M w g x blk → RepB M' w' g x blk
  | .cells ds, ⟨b, vs, el, e, h1, h2⟩ => ⟨b, vs, el, e, (hb b (by rw [e])).trans h1, h2.mono fun _ _ => RepD0.step hs⟩
  | .map _ m, ⟨b, es, c, e, h1, h2⟩ => ⟨b, es, c, e, (hb b (by rw [e])).trans h1, h2.mono fun _ _ ⟨a, b⟩ => ⟨a, b.step hs⟩⟩
  | .row e t ex xs, ⟨hz, cs, h1, h2, h3, h4⟩ => by
    refine ⟨hz, cs, ⟨h1.1, ?_⟩, h2, h3, fun i hi => RepC.step hs _ _ _ (h4 i hi)⟩
    rcases h1.2 with h0 | ⟨gg, cap, cur, h5, h6, h7, h8⟩
    · exact .inl h0
    · exact .inr ⟨gg, cap, cur, h5, h6, (hb gg (by rw [h2, h5]; rfl)).trans h7, h8⟩
theorem Sim.later (h : Sim G B0 M0 w0 gi g st a w) {w' : World} (he : Ext w w') : Sim G B0 M0 w0 gi g st a w' := by
  have hs : Step (Mof M0 g) w (Mof M0 g) w' := Step.ext he
  refine { h with fr := fun t d hd => (h.fr t d hd).step hs, hp := fun r blk hb => ?_, low := fun r x b h1 h2 => ?_, row := fun r x b h1 h2 h3 es c => by rw [he.block b (h.low _ _ _ h1 h2).2.1]; exact h.row r x b h1 h2 h3 es c, ext := h.ext.trans (ExtX.of_ext he (X := Xof gi)) fun _ _ h => h, stp := h.stp.trans hs }
  · obtain ⟨x, h1, h2⟩ := h.hp r blk hb
    exact ⟨x, h1, h2.step hs fun b hb => he.block b (h.low _ _ _ h1 hb).2.1⟩
  · have := h.low _ _ _ h1 h2
    exact ⟨this.1, Nat.lt_of_lt_of_le this.2.1 he.size, this.2.2⟩
theorem RepD.v_plain {M : Nat → Nat → Prop} {t : Ty} {x : t.den} {v : Value} (ht : t.isAgg = false) (h : RepD M w g (.v t x) v) : RepC M w t x [v] := RepV.plain ht h
theorem RepD.int {M : Nat → Nat → Prop} {k : IntKind} {x : Int} {v : Value} (h : RepD M w g (.v (.int k) x) v) : v = .int k x := by simpa [RepC, RepG] using RepD.v_plain rfl h
theorem RepD.u8 {M : Nat → Nat → Prop} {x : UInt8} {v : Value} (h : RepD M w g (.v .u8 x) v) : v = .int .u8 x.toNat := by simpa [RepC, RepG] using RepD.v_plain rfl h
theorem RepD.bool {M : Nat → Nat → Prop} {x : Bool} {v : Value} (h : RepD M w g (.v .bool x) v) : v = .bool x := by simpa [RepC, RepG] using RepD.v_plain rfl h
theorem RepD.str {M : Nat → Nat → Prop} {x : List UInt8} {v : Value} (h : RepD M w g (.v .str x) v) : v = .string ⟨x.toArray⟩ := by simpa [RepC, RepG] using RepD.v_plain rfl h
theorem repInt {M : Nat → Nat → Prop} (k : IntKind) (x : Int) : RepD M w g (.v (.int k) x) (.int k x) := RepC.toV (t := .int k) rfl rfl
theorem repU8 {M : Nat → Nat → Prop} (x : UInt8) : RepD M w g (.v .u8 x) (.int .u8 x.toNat) := RepC.toV (t := .u8) rfl rfl
theorem repBool {M : Nat → Nat → Prop} (x : Bool) : RepD M w g (.v .bool x) (.bool x) := RepC.toV (t := .bool) rfl rfl
theorem repStr {M : Nat → Nat → Prop} (x : List UInt8) : RepD M w g (.v .str x) (.string ⟨x.toArray⟩) := RepC.toV (t := .str) rfl rfl
theorem RepD.sl {M : Nat → Nat → Prop} {t : Ty} {xs : List t.den} {v : Value} (h : RepD M w g (.v (.sl t) xs) v) : RepC M w (.sl t) xs [v] := RepD.v_plain rfl h
end
end Go.Proofs.YtbekhaioddmliaaDoor
