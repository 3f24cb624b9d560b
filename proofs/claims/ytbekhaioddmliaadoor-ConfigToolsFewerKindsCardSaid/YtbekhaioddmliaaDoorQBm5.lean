/- The machine of values is right about operations that only read: arithmetic, comparisons, conversions, lengths. -/
import Derived.Test.YtbekhaioddmliaaDoorQBm4
import Derived.Laws.Pointers
import Derived.Lib.SliceRun
namespace Go.Proofs.YtbekhaioddmliaaDoor
set_option linter.unusedVariables false
set_option linter.unusedSimpArgs false
open Go Go.RowKit
theorem br_some {R : Type} {c : Bool} {x y : Option R} {r : R} (h : br c x y = some r) : (c = true ∧ x = some r) ∨ (c = false ∧ y = some r) := by
  cases c
  · exact .inr ⟨rfl, by simpa using h⟩
  · exact .inl ⟨rfl, by simpa using h⟩
section
variable {P : Program} {G : World → Prop} {B0 : Nat} {E : Env} {M : Nat → Nat → Prop} {M0 : Nat → Nat → Prop} {w0 : World} {gi g : Gh} {st : St} {a : Act} {w : World}
theorem exec_val {s : Sem Value} {v : Value} (h : s.run P w = .ok v w) : (do pure (Next.value (← s)) : Sem Next).run P w = .ok (.value v) w := by
  simp only [Sem.run_bind, h, Result.andThen_ok, Sem.run_pure]
theorem u8_lt (x y : UInt8) : decide (x < y) = decide ((x.toNat : Int) < y.toNat) := by
  have : (x < y) ↔ ((x.toNat : Int) < y.toNat) := by rw [UInt8.lt_iff_toNat_lt]; omega
  simp [this]
theorem u8_le (x y : UInt8) : decide (x ≤ y) = decide ((x.toNat : Int) ≤ y.toNat) := by
  have : (x ≤ y) ↔ ((x.toNat : Int) ≤ y.toNat) := by rw [UInt8.le_iff_toNat_le]; omega
  simp [this]
theorem u8_eq (x y : UInt8) : (x == y) = ((x.toNat : Int) == y.toNat) := by
  by_cases h : x = y
  · subst h; simp
  · have : x.toNat ≠ y.toNat := fun e => h (UInt8.toNat.inj e)
    have h1 : (x == y) = false := by simpa using h
    have h2 : ((x.toNat : Int) == y.toNat) = false := by simp; omega
    rw [h1, h2]
theorem wrap_u8 (n : Int) : IntKind.u8.wrap n = n % 256 := by simp [IntKind.wrap, IntKind.signed, IntKind.bits]
theorem u8_add (x y : UInt8) : IntKind.u8.wrap (x.toNat + y.toNat) = ((x + y).toNat : Int) := by
  rw [wrap_u8, UInt8.toNat_add]; omega
theorem u8_sub (x y : UInt8) : IntKind.u8.wrap (x.toNat - y.toNat) = ((x - y).toNat : Int) := by
  rw [wrap_u8, UInt8.toNat_sub]
  have := x.toNat_lt; have := y.toNat_lt
  omega
theorem flat_cells : ∀ (t : Ty) (x : t.den) (cs : List Value), flatCmp t = true → RepC M w t x cs → cs = cellsOf t x
  | .u8, _, _, _, h => h
  | .int _, _, _, _, h => h
  | .bool, _, _, _, h => h
  | .str, _, _, _, h => h
  | .un, _, _, _, h => h
  | .pr a b, x, _, hf, h => by
    simp only [flatCmp, Bool.and_eq_true] at hf
    obtain ⟨c1, c2, rfl, h1, h2⟩ := h
    rw [flat_cells a _ _ hf.1 h1, flat_cells b _ _ hf.2 h2]; rfl
  | .sl _, _, _, hf, _ => by cases hf
  | .mp _, _, _, hf, _ => by cases hf
  | .ptr _, _, _, hf, _ => by cases hf
  | .np _, _, _, hf, _ => by cases hf
  | .clo _ _, _, _, hf, _ => by cases hf
  | .rc _, _, _, hf, _ => by cases hf
theorem flat_val {t : Ty} {x : t.den} {v : Value} (hf : flatCmp t = true) (ha : t.isAgg = true) (h : RepV M w t x v) : v = .agg (cellsOf t x).toArray := by
  obtain ⟨cs, h1, rfl⟩ := h
  rw [mkV_agg ha, flat_cells t x cs hf h1]
theorem und_ptr {T : TypeId} {t : Ty} (h : TyOk P T t) (ht : isPtr t = true) : P.underlying T = some (.pointer (P.pointee T)) := by
  obtain ⟨d, _, h2, h3⟩ := h
  have : ∃ e, d = .pointer e := by
    cases t <;> first | (cases ht; done) | skip
    all_goals cases d <;> first | (simp [kindOk] at h3; done) | exact ⟨_, rfl⟩
  obtain ⟨e, rfl⟩ := this
  simp [Program.pointee, h2]
theorem neqNil (w : World) (t e : TypeId) (a : Option Addr) (n c : Nat) (h : P.underlying t = some (.slice e)) : (binOp .neq t (.slice a n c) (.slice none 0 0)).run P w = .ok (.bool (!a.isNone)) w := by
  have := Lib.run_eql_slice_nil w t e a n c 0 0 h
  simp only [binOp, Sem.run_bind] at this ⊢
  cases hq : (Op.equal t (.slice a n c) (.slice none 0 0)).run P w with
  | ok b w1 =>
    rw [hq] at this
    simp only [Result.andThen_ok, Sem.run_pure] at this ⊢
    injection this with h1 h2
    injection h1 with h1
    rw [h1, h2]
  | _ => rw [hq] at this; cases this
theorem ptrNil {R : Type} (hE : EnvOk P G B0 E) {op : BinOp} {T : TypeId} {ox oy : Operand} {vx : Value} {p : Option Addr} (hp : vx = .pointer p) {k : D → Option R} {r : R}
    (h : (match (E.ty T).map isPtr, op with
      | some true, .eql => k (.v .bool p.isNone)
      | some true, .neq => k (.v .bool (!p.isNone))
      | _, _ => none) = some r) : ∃ d v, k d = some r ∧ RepD M w g d v ∧ ∀ w' : World, True → (do eqGuard op T ox oy vx (.pointer none); binOp op T vx (.pointer none) : Sem Value).run P w' = .ok v w' := by
  subst hp
  have hu : (E.ty T).map isPtr = some true → P.underlying T = some (.pointer (P.pointee T)) := fun e => by
    cases ht : E.ty T with
    | none => rw [ht] at e; cases e
    | some t => rw [ht] at e; exact und_ptr (hE.ty _ _ ht) (by simpa using e)
  have hg : ∀ op, eqGuard op T ox oy (.pointer p) (.pointer none) = pure () := fun op => by cases op <;> rfl
  split at h
  · rename_i hT
    refine ⟨_, _, h, repBool _, fun w' _ => ?_⟩
    simp only [hg, Sem.run_bind, Sem.run_pure, Result.andThen_ok]
    exact run_eql_pointer_nil w' T p (hu hT)
  · rename_i hT
    refine ⟨_, _, h, repBool _, fun w' _ => ?_⟩
    simp only [hg, Sem.run_bind, Sem.run_pure, Result.andThen_ok]
    exact run_neq_pointer_nil w' T p (hu hT)
  · cases h
theorem binD_sound {R : Type} (hE : EnvOk P G B0 E) {op : BinOp} {T : TypeId} {ox oy : Operand} {dx dy : D} {vx vy : Value} {k : D → Option R} {r : R} (hx : RepD M w g dx vx) (hy : RepD M w g dy vy)
    (h : binD (E.ty T) (E.cmp T) op dx dy k = some r) : ∃ d v, k d = some r ∧ RepD M w g d v ∧ ∀ w' : World, True → (do eqGuard op T ox oy vx vy; binOp op T vx vy : Sem Value).run P w' = .ok v w' := by
  unfold binD at h
  split at h
  · rename_i i x j y
    have hx' := RepD.int hx
    have hy' := RepD.int hy
    subst hx' hy'
    split at h
    · rcases br_some h with ⟨hc, h⟩ | ⟨_, h⟩
      · have h0 : (0 : Int) ≤ y := of_decide_eq_true hc
        refine ⟨_, _, h, repInt _ _, fun _ _ => ?_⟩
        have h1 : ¬ y < (0 : Int) := Int.not_lt.2 h0
        simp [eqGuard, binOp, Op.shift, shrI, h1]
      · cases h
    split at h
    · rename_i e
      subst e
      split at h
      · exact ⟨_, _, h, repInt _ _, fun _ _ => by simp [eqGuard, binOp, Op.intArith]⟩
      · exact ⟨_, _, h, repInt _ _, fun _ _ => by simp [eqGuard, binOp, Op.intArith]⟩
      · exact ⟨_, _, h, repInt _ _, fun _ _ => by simp [eqGuard, binOp, Op.intArith]⟩
      · rcases br_some h with ⟨_, h⟩ | ⟨hc, h⟩
        · cases h
        · have hy0 : ¬ y = 0 := by simpa using hc
          exact ⟨_, _, h, repInt _ _, fun _ _ => by simp [eqGuard, binOp, Op.intDiv, hy0]⟩
      · rcases br_some h with ⟨_, h⟩ | ⟨hc, h⟩
        · cases h
        · have hy0 : ¬ y = 0 := by simpa using hc
          exact ⟨_, _, h, repInt _ _, fun _ _ => by simp [eqGuard, binOp, Op.intDiv, hy0]⟩
      all_goals first
        | (cases h; done)
        | exact ⟨_, _, h, repBool _, fun _ _ => by simp [eqGuard, binOp, Op.intCmp]⟩
    · cases h
  · rename_i x y
    have hx' := RepD.u8 hx
    have hy' := RepD.u8 hy
    subst hx' hy'
    split at h
    · exact ⟨_, _, h, repBool _, fun _ _ => by simp [eqGuard, binOp, Op.intCmp, u8_eq]⟩
    · exact ⟨_, _, h, repBool _, fun _ _ => by simp [eqGuard, binOp, Op.intCmp, bne, u8_eq]⟩
    · exact ⟨_, _, h, repBool _, fun _ _ => by rw [u8_lt]; simp [eqGuard, binOp, Op.intCmp]⟩
    · exact ⟨_, _, h, repBool _, fun _ _ => by rw [u8_le]; simp [eqGuard, binOp, Op.intCmp]⟩
    · exact ⟨_, _, h, repBool _, fun w' _ => by show _ = Result.ok (Value.bool (decide (y < x))) w'; rw [u8_lt]; simp [eqGuard, binOp, Op.intCmp]⟩
    · exact ⟨_, _, h, repBool _, fun w' _ => by show _ = Result.ok (Value.bool (decide (y ≤ x))) w'; rw [u8_le]; simp [eqGuard, binOp, Op.intCmp]⟩
    · exact ⟨_, _, h, repU8 _, fun _ _ => by rw [← u8_sub]; simp [eqGuard, binOp, Op.intArith]⟩
    · exact ⟨_, _, h, repU8 _, fun _ _ => by rw [← u8_add]; simp [eqGuard, binOp, Op.intArith]⟩
    · cases h
  · rename_i x y
    have hx' := RepD.bool hx
    have hy' := RepD.bool hy
    subst hx' hy'
    have hu : E.ty T = some .bool → P.underlying T = some .bool := fun e => by
      obtain ⟨d, _, h2, h3⟩ := hE.ty T .bool e
      rw [h2]
      cases d <;> simp [kindOk] at h3 ⊢
    split at h
    · have he : ∀ w, (Op.equal T (.bool x) (.bool y)).run P w = .ok (x == y) w := fun w => run_equalIn_bool w 9999 T x y (hu (by assumption))
      refine ⟨_, _, h, repBool _, fun w' _ => ?_⟩
      show (do pure (.bool (← Op.equal T (.bool x) (.bool y))) : Sem Value).run P w' = _
      simp only [Sem.run_bind, he, Result.andThen_ok, Sem.run_pure]
    · have he : ∀ w, (Op.equal T (.bool x) (.bool y)).run P w = .ok (x == y) w := fun w => run_equalIn_bool w 9999 T x y (hu (by assumption))
      refine ⟨_, _, h, repBool _, fun w' _ => ?_⟩
      show (do pure (.bool (!(← Op.equal T (.bool x) (.bool y)))) : Sem Value).run P w' = _
      simp only [Sem.run_bind, he, Result.andThen_ok, Sem.run_pure, bne]
    · cases h
  · rename_i x y
    have hx' := RepD.str hx
    have hy' := RepD.str hy
    subst hx' hy'
    split at h
    · exact ⟨_, _, h, repBool _, fun _ _ => by simp [eqGuard, binOp, Op.stringOp]⟩
    · exact ⟨_, _, h, repBool _, fun _ _ => by simp [eqGuard, binOp, Op.stringOp]⟩
    · exact ⟨_, _, h, repBool _, fun _ _ => by simp [eqGuard, binOp, Op.stringOp]⟩
    · exact ⟨_, _, h, repBool _, fun _ _ => by simp [eqGuard, binOp, Op.stringOp]⟩
    · exact ⟨_, _, h, repBool _, fun _ _ => by simp [eqGuard, binOp, Op.stringOp]⟩
    · exact ⟨_, _, h, repBool _, fun _ _ => by simp [eqGuard, binOp, Op.stringOp]⟩
    · rcases br_some h with ⟨hc, h⟩ | ⟨hc, h⟩
      · refine ⟨_, _, h, repStr _, fun w' _ => ?_⟩
        have hs : (⟨x.toArray⟩ : ByteArray).size + (⟨y.toArray⟩ : ByteArray).size ≤ 9223372036854775807 := by simpa [ByteArray.size] using of_decide_eq_true hc
        have := run_string_add_sum (P := P) (w := w') ⟨x.toArray⟩ ⟨y.toArray⟩ hs
        rw [ByteArray.mk_append_mk] at this
        simp [eqGuard, binOp, this]
      · cases h
    · cases h
  · rename_i a b x t' y
    split at h
    · rename_i tc hc
      obtain ⟨hf, hag, hcmp⟩ := hE.cmp _ _ hc
      split at h
      · rename_i e
        obtain ⟨e1, e2⟩ := e
        subst e1 e2
        have hx' := flat_val hf hag hx
        have hy' := flat_val hf hag hy
        subst hx' hy'
        split at h
        · exact ⟨_, _, h, repBool _, fun w' _ => (hcmp x y ox oy w').1⟩
        · exact ⟨_, _, h, repBool _, fun w' _ => (hcmp x y ox oy w').2⟩
        · cases h
      · cases h
    · cases h
  · rename_i t x
    obtain rfl : vy = .pointer none := hy
    have hx' := RepD.v_plain rfl hx
    obtain ⟨p, hp, hn⟩ : ∃ p, vx = .pointer p ∧ p.isNone = x.isNone := by
      cases x with
      | none => have h2 : [vx] = [Value.pointer none] := hx'; exact ⟨none, by simpa using h2, rfl⟩
      | some x => obtain ⟨ad, es, e, _⟩ := hx'; exact ⟨some ad, by simpa using e, rfl⟩
    rw [← hn] at h
    exact ptrNil hE hp h
  · obtain rfl : vy = .pointer none := hy
    obtain ⟨ad, cs, e, _⟩ := hx
    exact ptrNil hE e h
  · obtain rfl : vy = .pointer none := hy
    obtain ⟨x, b, _, _, e⟩ := hx
    exact ptrNil hE e h
  · rename_i t xs
    obtain rfl : vy = .slice none 0 0 := hy
    have hx' := RepD.v_plain rfl hx
    obtain ⟨A, n, c, e, hA⟩ : ∃ A n c, vx = .slice A n c ∧ (xs ≠ [] → A.isNone = false) := by
      obtain ⟨A, c, e, h2, h3, h4⟩ := hx'
      refine ⟨A, xs.length, c, by simpa using e, fun hne => ?_⟩
      have hl : 0 < xs.length := List.length_pos_iff.2 hne
      obtain ⟨ad, es, e2, _⟩ := h4 0 hl
      rw [e2]; rfl
    subst e
    have hg : ∀ op, eqGuard op T ox oy (.slice A n c) (.slice none 0 0) = pure () := fun op => by cases op <;> rfl
    have hu : ∀ t', E.ty T = some (.sl t') → ∃ e, P.underlying T = some (.slice e) := fun t' ht => by
      obtain ⟨d, _, h2, h3⟩ := hE.ty _ _ ht
      cases d <;> simp [kindOk] at h3
      exact ⟨_, h2⟩
    have hcase : ∀ {kt kf : Option R} {ks : Option R}, br xs.isEmpty (both kt kf) ks = some r → (A.isNone = true → kt = some r) ∧ (A.isNone = false → ks = some r ∨ kf = some r) := fun {kt kf ks} h => by
      rcases br_some h with ⟨hc, h⟩ | ⟨hc, h⟩
      · obtain ⟨h1, h2⟩ := both_some h
        exact ⟨fun _ => h1, fun _ => .inr h2⟩
      · have := hA (by rintro rfl; cases hc)
        exact ⟨fun h' => (by rw [this] at h'; cases h'), fun _ => .inl h⟩
    split at h
    · rename_i t' hT
      obtain ⟨h1, h2⟩ := hcase h
      obtain ⟨e, hu⟩ := hu _ hT
      cases hn : A.isNone with
      | true =>
        refine ⟨.bl true, _, h1 hn, rfl, fun w' _ => ?_⟩
        simp only [hg, Sem.run_bind, Sem.run_pure, Result.andThen_ok]
        rw [Lib.run_eql_slice_nil w' _ _ A n c 0 0 hu, hn]
      | false =>
        refine ⟨.bl false, _, (by rcases h2 hn with h | h <;> exact h), rfl, fun w' _ => ?_⟩
        simp only [hg, Sem.run_bind, Sem.run_pure, Result.andThen_ok]
        rw [Lib.run_eql_slice_nil w' _ _ A n c 0 0 hu, hn]
    · rename_i t' hT
      rcases br_some h with ⟨hc, h⟩ | ⟨hc, h⟩
      · obtain ⟨h1, h2⟩ := both_some h
        obtain ⟨e, hu⟩ := hu _ hT
        cases hn : A.isNone with
        | true =>
          refine ⟨.bl false, _, h2, rfl, fun w' _ => ?_⟩
          simp only [hg, Sem.run_bind, Sem.run_pure, Result.andThen_ok]
          rw [neqNil w' _ _ A n c hu, hn]; rfl
        | false =>
          refine ⟨.bl true, _, h1, rfl, fun w' _ => ?_⟩
          simp only [hg, Sem.run_bind, Sem.run_pure, Result.andThen_ok]
          rw [neqNil w' _ _ A n c hu, hn]; rfl
      · have hn := hA (by rintro rfl; cases hc)
        obtain ⟨e, hu⟩ := hu _ hT
        refine ⟨.bl true, _, h, rfl, fun w' _ => ?_⟩
        simp only [hg, Sem.run_bind, Sem.run_pure, Result.andThen_ok]
        rw [neqNil w' _ _ A n c hu, hn]; rfl
    · cases h
  · cases h
theorem TyOk.und {T : TypeId} {t : Ty} (h : TyOk P T t) : ∃ d, P.underlying T = some d ∧ kindOk t d = true := let ⟨d, _, h2, h3⟩ := h; ⟨d, h2, h3⟩
theorem und_int {T : TypeId} {k : IntKind} (h : TyOk P T (.int k)) : P.underlying T = some (.int k) := by
  obtain ⟨d, h2, h3⟩ := h.und
  rw [h2]
  cases d <;> simp [kindOk] at h3 ⊢
  exact h3.symm
theorem und_u8 {T : TypeId} (h : TyOk P T .u8) : P.underlying T = some (.int .u8) := by
  obtain ⟨d, h2, h3⟩ := h.und
  rw [h2]
  cases d with
  | int k => cases k <;> simp [kindOk] at h3 ⊢
  | _ => simp [kindOk] at h3
theorem und_str {T : TypeId} (h : TyOk P T .str) : P.underlying T = some .string := by
  obtain ⟨d, h2, h3⟩ := h.und
  rw [h2]
  cases d <;> simp [kindOk] at h3 ⊢
theorem und_sl {T : TypeId} {t : Ty} (h : TyOk P T (.sl t)) : ∃ e, P.underlying T = some (.slice e) := by
  obtain ⟨d, h2, h3⟩ := h.und
  cases d <;> simp [kindOk] at h3
  exact ⟨_, h2⟩
theorem und_mp {T : TypeId} {t : Ty} (h : TyOk P T (.mp t)) : ∃ k e, P.underlying T = some (.map k e) := by
  obtain ⟨d, h2, h3⟩ := h.und
  cases d <;> simp [kindOk] at h3
  exact ⟨_, _, h2⟩
theorem und_some {T : TypeId} {t : Ty} (h : TyOk P T t) : (P.underlying T).isSome = true := by
  obtain ⟨d, h2, _⟩ := h.und; rw [h2]; rfl
theorem run_conv_int {S T : TypeId} {j k : IntKind} {x : Int} (hS : (P.underlying S).isSome = true) (hT : P.underlying T = some (.int j)) :
    (convert S T (.int k x)).run P w = .ok (.int j (j.wrap x)) w := by
  obtain ⟨d, hd⟩ := Option.isSome_iff_exists.mp hS
  simp [convert, run_underlying hd, run_underlying hT, Conv.intToInt]
/-- What is lent: the cells, as they are now. -/
theorem Sim.lentC (hs : Sim G B0 M0 w0 gi g st a w) {d : D} {v : Value} (h : RepD (Mof M0 g) w g d v) {x : List UInt8} (hx : st.lent (.sl .u8) d = some x) : ∃ A c, v = .slice A x.length c ∧ ∀ w', KeepR (Mof M0 g) g st.hp w w' → Row w' A (bcs x) := by
  cases d with
  | row r =>
    simp only [St.lent] at hx
    split at hx
    · rename_i e t' xs hb
      split at hx
      · rename_i e'
        injection e' with e'
        subst e'
        cases hx
        obtain ⟨gx, h1, hz, cs, h2, h3, h4, h5⟩ := hs.hp _ _ hb
        obtain ⟨gx', _, _, _, h6, h7, _⟩ := h
        rw [h1] at h6
        cases h6
        subst h7
        have hcs : cs = bcs xs := by
          have hl := h2.1
          simp only [Ty.sz, Nat.mul_one] at hl
          apply List.ext_getElem (by rw [hl, bcs_len])
          intro i h8 h9
          have := h5 i (by omega)
          have h10 : (cs.drop (i * 1)).take 1 = [.int .u8 (xs[i]'(by omega)).toNat] := this
          rw [Nat.mul_one, List.take_one, List.head?_drop, List.getElem?_eq_getElem h8] at h10
          simp only [Option.toList, List.cons.injEq, and_true] at h10
          rw [h10]
          have h11 := bcs_at xs (k := i) (by omega)
          rw [List.getElem?_eq_getElem h9] at h11
          injection h11 with h11
          rw [h11]
        obtain ⟨A, c, e, _, _, hrow⟩ := Row.of_own' h2
        refine ⟨A, c, e, fun w' hk => ?_⟩
        obtain ⟨A2, c2, e2, _, _, hrow2⟩ := Row.of_own' (hk.own hb h1 h3 h2)
        rw [e] at e2
        injection e2 with e3 e4 e5
        exact e3 ▸ hcs ▸ hrow2
      · cases hx
    · cases hx
  | mref r =>
    simp only [St.lent] at hx
    split at hx
    · split at hx
      · rename_i e; cases e
      · cases hx
    · cases hx
  | _ => simp [St.lent] at hx
/-- The cells of bytes. -/
theorem RepC.bytes {A : Option Addr} {c : Nat} {x : List UInt8} (h : RepC M w (.sl .u8) x [.slice A x.length c]) : Row w A (bcs x) := by
  obtain ⟨A', c', e, _, _, hr⟩ := h
  simp only [List.cons.injEq, Value.slice.injEq, and_true] at e
  obtain ⟨rfl, _, rfl⟩ := e
  intro hne
  have h0 : 0 < x.length := by
    rcases x with _ | ⟨y, l⟩
    · exact absurd rfl hne
    · simp
  obtain ⟨ad, _, e, _⟩ := hr 0 h0
  subst e
  refine ⟨ad, rfl, fun j u hu => ?_⟩
  have hj : j < x.length := by
    rcases Nat.lt_or_ge j (bcs x).length with h' | h'
    · rwa [bcs_len] at h'
    · rw [List.getElem?_eq_none h'] at hu; cases hu
  obtain ⟨ad', es, e, h1, h2⟩ := hr j hj
  injection e with e
  subst e
  rw [bcs_at x hj] at hu
  injection hu with hu
  have h1' : es = [.int .u8 x[j].toNat] := h1
  have := (h2 0 _ (by rw [h1']; rfl)).1
  simp only [Ty.sz, Nat.mul_one] at this
  rw [add_of_add, Nat.add_zero] at this
  rw [this, hu]
theorem u8_back (x : Int) : ((UInt8.ofNat (IntKind.u8.wrap x).toNat).toNat : Int) = IntKind.u8.wrap x := by rw [wrap_u8]; simp; omega
theorem u8_self (x : UInt8) : IntKind.u8.wrap x.toNat = (x.toNat : Int) := by rw [wrap_u8]; have := x.toNat_lt; omega
theorem convD_sound {R : Type} (hE : EnvOk P G B0 E) (hs : Sim G B0 M0 w0 gi g st a w) {S T : TypeId} {dx : D} {vx : Value} {k : D → Option R} {r : R} (hx : RepD (Mof M0 g) w g dx vx)
    (h : convD st (E.ty S) (E.el S) (E.ty T) dx k = some r) : ∃ d v, k d = some r ∧ RepD (Mof M0 g) w g d v ∧ ∀ w', KeepR (Mof M0 g) g st.hp w w' → (convert S T vx).run P w' = .ok v w' := by
  unfold convD at h
  split at h
  · have hx' := RepD.int hx
    subst hx'
    split at h
    · rename_i hS hT
      exact ⟨_, _, h, repInt _ _, fun _ _ => run_conv_int (und_some (hE.ty _ _ hS)) (und_int (hE.ty _ _ hT))⟩
    · rename_i hS hT
      refine ⟨_, _, h, repU8 _, fun _ _ => ?_⟩
      rw [run_conv_int (und_some (hE.ty _ _ hS)) (und_u8 (hE.ty _ _ hT)), u8_back]
    · cases h
  · have hx' := RepD.u8 hx
    subst hx'
    split at h
    · rename_i hS hT
      exact ⟨_, _, h, repInt _ _, fun _ _ => run_conv_int (und_some (hE.ty _ _ hS)) (und_int (hE.ty _ _ hT))⟩
    · rename_i hS hT
      refine ⟨_, _, h, repU8 _, fun _ _ => ?_⟩
      rw [run_conv_int (und_some (hE.ty _ _ hS)) (und_u8 (hE.ty _ _ hT)), u8_self]
    · cases h
  · have hx' := RepD.str hx
    subst hx'
    split at h
    · rename_i hS hT
      refine ⟨_, _, h, repStr _, fun _ _ => ?_⟩
      simp [convert, run_underlying (und_str (hE.ty _ _ hS)), run_underlying (und_str (hE.ty _ _ hT))]
    · cases h
  · split at h
    · rename_i hS hT
      have fin : ∀ (x : List UInt8) , RepC (Mof M0 g) w (.sl .u8) x [vx] → k (.v .str x) = some r → ∃ d v, k d = some r ∧ RepD (Mof M0 g) w g d v ∧ ∀ w', KeepR (Mof M0 g) g st.hp w w' → (convert S T vx).run P w' = .ok v w' := by
        intro x hr h
        have hr' := hr
        obtain ⟨A, c, e, _⟩ := hr
        simp only [List.cons.injEq, and_true] at e
        subst e
        obtain ⟨he, bytes, ⟨hu, _⟩, _⟩ := hE.el _ _ _ hS
        exact ⟨_, _, h, repStr _, fun w' hE' => run_bytes_str w' S T _ A c x hu (und_u8 he) (und_str (hE.ty _ _ hT)) (RepC.bytes (RepC.step hE'.step (.sl .u8) _ _ hr'))⟩
      split at h
      · rename_i x hax
        exact fin _ (RepV.plain rfl (hs.dat hx hax)) h
      · split at h
        · rename_i x hax
          have hrow := hs.lentC hx hax
          obtain ⟨A, c, e, hrow⟩ := hrow
          subst e
          obtain ⟨he, bytes, ⟨hu, _⟩, _⟩ := hE.el _ _ _ hS
          exact ⟨_, _, h, repStr _, fun w' hE' => run_bytes_str w' S T _ A c x hu (und_u8 he) (und_str (hE.ty _ _ hT)) (hrow w' hE')⟩
        · cases h
    · cases h
end
end Go.Proofs.YtbekhaioddmliaaDoor
