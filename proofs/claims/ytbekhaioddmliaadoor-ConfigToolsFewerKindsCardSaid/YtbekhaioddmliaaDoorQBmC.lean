/- Structs of plain fields are compared as the machine compares them. -/
import Derived.Test.YtbekhaioddmliaaDoorQBmX
import Derived.Laws.StructEq
import Derived.Lib.Bytealg
namespace Go.Proofs.YtbekhaioddmliaaDoor
set_option linter.unusedVariables false
set_option linter.unusedSimpArgs false
open Go Go.RowKit
/-- A plain type of one cell. -/
inductive Sc (P : Program) : Ty → TypeId → Prop where
  | u8 {T : TypeId} : P.underlying T = some (.int .u8) → Sc P .u8 T
  | int {T : TypeId} {k : IntKind} : P.underlying T = some (.int k) → Sc P (.int k) T
  | bool {T : TypeId} : P.underlying T = some .bool → Sc P .bool T
  | str {T : TypeId} : P.underlying T = some .string → Sc P .str T
inductive FlatF (P : Program) : Ty → List Field → Nat → Prop where
  | nil {o : Nat} : FlatF P .un [] o
  | one {t : Ty} {f : Field} {o : Nat} : f.offset = o → f.name ≠ "_" → Sc P t f.type → FlatF P t [f] o
  | single {t : Ty} {f : Field} {o : Nat} : f.offset = o → f.name ≠ "_" → Sc P t f.type → FlatF P (.pr t .un) [f] o
  | cons {a b : Ty} {f : Field} {fs : List Field} {o : Nat} : f.offset = o → f.name ≠ "_" → Sc P a f.type → FlatF P b fs (o + 1) → FlatF P (.pr a b) (f :: fs) o
section
variable {P : Program} {w : World}
theorem Sc.sz {t : Ty} {T : TypeId} (h : Sc P t T) : t.sz = 1 := by cases h <;> rfl
theorem Sc.cell {t : Ty} {T : TypeId} (h : Sc P t T) (x : t.den) : ∃ c, cellsOf t x = [c] := by cases h <;> exact ⟨_, rfl⟩
theorem Sc.isAgg {t : Ty} {T : TypeId} (h : Sc P t T) : (Go.isAgg T).run P w = .ok false w := by
  cases h <;> rename_i hu <;> simp [Go.isAgg, run_underlying hu]
theorem Sc.eq {t : Ty} {T : TypeId} (h : Sc P t T) (d : Nat) {x y : t.den} {a b : Value} (ha : cellsOf t x = [a]) (hb : cellsOf t y = [b]) : (Op.equalIn (d + 1) T a b).run P w = .ok (eqb t x y) w := by
  cases h with
  | u8 hu =>
    have ha' : [Value.int .u8 (UInt8.toNat x)] = [a] := ha
    have hb' : [Value.int .u8 (UInt8.toNat y)] = [b] := hb
    injection ha' with ha'; injection hb' with hb'
    subst ha'; subst hb'
    rw [run_equalIn_int w d _ _ _ _ _ hu]
    congr 1
    show decide _ = decide _
    exact decide_eq_decide.2 ⟨fun h => UInt8.toNat_inj.1 (by omega), fun h => by rw [h]⟩
  | int hu =>
    have ha' : [Value.int _ x] = [a] := ha
    have hb' : [Value.int _ y] = [b] := hb
    injection ha' with ha'; injection hb' with hb'
    subst ha'; subst hb'
    rw [run_equalIn_int w d _ _ _ _ _ hu]
    rfl
  | bool hu =>
    have ha' : [Value.bool x] = [a] := ha
    have hb' : [Value.bool y] = [b] := hb
    injection ha' with ha'; injection hb' with hb'
    subst ha'; subst hb'
    rw [run_equalIn_bool' w d _ _ _ hu]
    rfl
  | str hu =>
    have ha' : [Value.string ⟨List.toArray x⟩] = [a] := ha
    have hb' : [Value.string ⟨List.toArray y⟩] = [b] := hb
    injection ha' with ha'; injection hb' with hb'
    subst ha'; subst hb'
    rw [run_equalIn_string w d _ _ _ hu, Lib.toList_data, Lib.toList_data]
    rfl
theorem run_part_at {T : TypeId} {xs : Array Value} {o : Nat} {c : Value} (h : (Go.isAgg T).run P w = .ok false w) (hc : xs[o]? = some c) : (part T xs o).run P w = .ok c w := by
  simp [part, h, hc]
theorem flat_eq (d : Nat) : ∀ (fs : List Field) (t : Ty) (o : Nat) (xs ys : Array Value) (x y : t.den), FlatF P t fs o → (xs.toList.drop o).take t.sz = cellsOf t x → (ys.toList.drop o).take t.sz = cellsOf t y →
    (Op.eqFields (d + 1) xs ys fs).run P w = .ok (eqb t x y) w := by
  have hone : ∀ (xs : Array Value) (o : Nat) (c : Value) (n : Nat) (l : List Value), (xs.toList.drop o).take (1 + n) = c :: l → xs[o]? = some c ∧ (xs.toList.drop (o + 1)).take n = l := fun xs o c n l h => by
    have hc : xs.toList.drop o = c :: xs.toList.drop (o + 1) := by
      cases hd : xs.toList.drop o with
      | nil => rw [hd] at h; simp at h
      | cons e r =>
        rw [hd, Nat.add_comm, List.take_succ_cons] at h
        injection h with h1 h2
        rw [h1]
        congr 1
        have := congrArg (List.drop 1) hd
        rw [List.drop_drop] at this
        simpa [Nat.add_comm] using this.symm
    refine ⟨?_, ?_⟩
    · have := congrArg (fun l => l[0]?) hc
      simpa using this
    · rw [hc, Nat.add_comm, List.take_succ_cons] at h
      injection h
  intro fs
  induction fs with
  | nil =>
    intro t o xs ys x y hf _ _
    cases hf
    simp [Op.eqFields, eqb]
  | cons f fs ih =>
    intro t o xs ys x y hf hx hy
    have hstep : ∀ (a : Ty) (xa ya : a.den) (ca cb : Value) (r : Bool), f.offset = o → f.name ≠ "_" → Sc P a f.type → cellsOf a xa = [ca] → cellsOf a ya = [cb] → xs[o]? = some ca → ys[o]? = some cb →
        (Op.eqFields (d + 1) xs ys fs).run P w = .ok r w → (Op.eqFields (d + 1) xs ys (f :: fs)).run P w = .ok (eqb a xa ya && r) w := fun a xa ya ca cb r ho hn hs h1 h2 h3 h4 h5 => by
      subst ho
      simp only [Op.eqFields, hn, ne_eq, not_false_eq_true, if_true, Sem.run_bind, run_part_at hs.isAgg h3, run_part_at hs.isAgg h4, hs.eq d h1 h2, Result.andThen_ok]
      cases eqb a xa ya with
      | true => simpa using h5
      | false => simp
    cases hf with
    | one ho hn hs =>
      obtain ⟨ca, h1⟩ := hs.cell x
      obtain ⟨cb, h2⟩ := hs.cell y
      rw [hs.sz, h1] at hx
      rw [hs.sz, h2] at hy
      have := hstep t x y ca cb true ho hn hs h1 h2 (hone xs o ca 0 [] hx).1 (hone ys o cb 0 [] hy).1 (by simp [Op.eqFields])
      simpa using this
    | single ho hn hs =>
      rename_i a
      obtain ⟨xa, u⟩ := x
      obtain ⟨ya, v⟩ := y
      obtain ⟨ca, h1⟩ := hs.cell xa
      obtain ⟨cb, h2⟩ := hs.cell ya
      have hx' : (xs.toList.drop o).take (a.sz + 0) = cellsOf a xa ++ [] := hx
      have hy' : (ys.toList.drop o).take (a.sz + 0) = cellsOf a ya ++ [] := hy
      rw [hs.sz, h1] at hx'
      rw [hs.sz, h2] at hy'
      exact hstep a xa ya ca cb true ho hn hs h1 h2 (hone xs o ca 0 [] hx').1 (hone ys o cb 0 [] hy').1 (by simp [Op.eqFields])
    | @cons a b _ _ _ ho hn hs hr =>
      obtain ⟨xa, xb⟩ := x
      obtain ⟨ya, yb⟩ := y
      obtain ⟨ca, h1⟩ := hs.cell xa
      obtain ⟨cb, h2⟩ := hs.cell ya
      have hx' : (xs.toList.drop o).take (a.sz + b.sz) = cellsOf a xa ++ cellsOf b xb := hx
      have hy' : (ys.toList.drop o).take (a.sz + b.sz) = cellsOf a ya ++ cellsOf b yb := hy
      rw [hs.sz, h1] at hx'
      rw [hs.sz, h2] at hy'
      obtain ⟨k1, k2⟩ := hone xs o ca b.sz _ hx'
      obtain ⟨k3, k4⟩ := hone ys o cb b.sz _ hy'
      exact hstep a xa ya ca cb _ ho hn hs h1 h2 k1 k3 (ih b (o + 1) xs ys xb yb hr k2 k4)
theorem FlatF.len {t : Ty} {fs : List Field} {o : Nat} (h : FlatF P t fs o) (x : t.den) : (cellsOf t x).length = t.sz := by
  induction h with
  | nil => rfl
  | one _ _ hs => obtain ⟨c, hc⟩ := hs.cell x; rw [hc, hs.sz]; rfl
  | single _ _ hs =>
    obtain ⟨xa, u⟩ := x
    obtain ⟨c, hc⟩ := hs.cell xa
    show (cellsOf _ xa ++ []).length = _ + 0
    rw [hc, hs.sz]; rfl
  | cons _ _ hs _ ih =>
    obtain ⟨xa, xb⟩ := x
    obtain ⟨c, hc⟩ := hs.cell xa
    show (cellsOf _ xa ++ cellsOf _ xb).length = _ + _
    rw [List.length_append, hc, hs.sz, ih xb]; rfl
theorem CmpOk.flat {T : TypeId} {t : Ty} {fs : Array Field} (hc : flatCmp t = true) (ha : t.isAgg = true) (hu : P.underlying T = some (.struct fs)) (hp : P.stoodInHeld T = false) (hg : P.eqGuardType P.depth T = false) (hf : FlatF P t fs.toList 0) : CmpOk P T t := by
  have hfo : P.fieldsOf T = fs := by unfold Program.fieldsOf; rw [hu]
  have heq : ∀ (x y : t.den) (w : World), (Op.equalIn 10000 T (.agg (cellsOf t x).toArray) (.agg (cellsOf t y).toArray)).run P w = .ok (eqb t x y) w := fun x y w => by
    rw [run_equalIn_agg w 9999 T _ _ (by rw [hfo]; exact hu) hp, hfo]
    refine flat_eq 9998 fs.toList t 0 _ _ x y hf ?_ ?_
    · rw [List.drop_zero, List.take_of_length_le (by simp [hf.len x])]
    · rw [List.drop_zero, List.take_of_length_le (by simp [hf.len y])]
  refine ⟨hc, ha, fun x y ox oy w => ⟨?_, ?_⟩⟩
  · simp only [Sem.run_bind, run_eqGuard_agg w _ _ _ _ _ _ hg, Result.andThen_ok, run_eql_struct, heq]
  · simp only [Sem.run_bind, run_eqGuard_agg w _ _ _ _ _ _ hg, Result.andThen_ok, run_neq_struct, heq]
end
end Go.Proofs.YtbekhaioddmliaaDoor
