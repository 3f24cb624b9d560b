/- The machine of values is right about all operations that only read. -/
import Derived.Test.YtbekhaioddmliaaDoorQBm6
namespace Go.Proofs.YtbekhaioddmliaaDoor
set_option linter.unusedVariables false
set_option linter.unusedSimpArgs false
open Go Go.RowKit
section
variable {P : Program} {G : World → Prop} {B0 : Nat} {E : Env} {M : Nat → Nat → Prop} {M0 : Nat → Nat → Prop} {w0 : World} {gi g : Gh} {st : St} {a : Act} {w : World}
theorem run_sliceBound_ok {k : IntKind} {i : Int} {y : Nat} {code : BoundsCode} (h0 : 0 ≤ i) (h1 : i ≤ y) : (Instr.sliceBound (.int k i) y code).run P w = .ok i.toNat w := by
  simp [Instr.sliceBound, asIntOf, h0, h1]
/-- One bound: what the machine takes it for. -/
def Bd (v : Option Value) (n dflt : Int) : Prop := (v = none ∧ n = dflt) ∨ v = some (.int .i64 n)
theorem run_sliceBounds_ok {isS : Bool} {len cap : Nat} {lo hi : Option Value} {l h : Int} (hl : Bd lo l 0) (hh : Bd hi h len) (h0 : 0 ≤ l) (h1 : l ≤ h) (h2 : h ≤ len) (h3 : len ≤ cap) :
    (Instr.sliceBounds isS len cap lo hi none).run P w = .ok (l.toNat, h.toNat, cap) w := by
  rcases hh with ⟨rfl, rfl⟩ | rfl <;> rcases hl with ⟨rfl, rfl⟩ | rfl
  · simp [Instr.sliceBounds]
  · simp [Instr.sliceBounds, run_sliceBound_ok (P := P) (w := w) h0 (show l ≤ (len : Int) by omega)]
  · simp [Instr.sliceBounds, run_sliceBound_ok (P := P) (w := w) (show 0 ≤ h by omega) (show h ≤ (cap : Int) by omega)]
  · have hb1 := run_sliceBound_ok (P := P) (w := w) (k := .i64) (code := if isS then .sliceAcap else .sliceAlen) (show 0 ≤ h by omega) (show h ≤ (cap : Int) by omega)
    have hb2 := run_sliceBound_ok (P := P) (w := w) (k := .i64) (code := .sliceB) (y := h.toNat) h0 (show l ≤ (h.toNat : Int) by omega)
    simp [Instr.sliceBounds, hb1, hb2]
theorem slc_some {α : Type} {xs ys : List α} {lo hi : Int} (h : slc xs lo hi = some ys) : 0 ≤ lo ∧ lo ≤ hi ∧ hi ≤ xs.length ∧ ys = (xs.take hi.toNat).drop lo.toNat := by
  unfold slc at h
  split at h
  · rename_i hc
    cases h
    exact ⟨hc.1, hc.2.1, hc.2.2, rfl⟩
  · cases h
theorem loD_bd (hs : Sim G B0 M0 w0 gi g st a w) {lo : Option Operand} {n : Int} (h : loD st lo = some n) : Bd (lo.map a.eval) n 0 := by
  cases lo with
  | none => cases h; exact .inl ⟨rfl, rfl⟩
  | some o =>
    simp only [loD] at h
    split at h
    · rename_i m hd
      cases h
      have := hs.ev o
      rw [hd] at this
      exact .inr (by rw [Option.map_some, RepD.int this])
    · cases h
theorem hiD_bd (hs : Sim G B0 M0 w0 gi g st a w) {len : Nat} {lo : Option Operand} {n : Int} (h : hiD st len lo = some n) : Bd (lo.map a.eval) n len := by
  cases lo with
  | none => cases h; exact .inl ⟨rfl, rfl⟩
  | some o =>
    simp only [hiD] at h
    split at h
    · rename_i m hd
      cases h
      have := hs.ev o
      rw [hd] at this
      exact .inr (by rw [Option.map_some, RepD.int this])
    · cases h
theorem slcD_some {R α : Type} {xs : List α} {lo hi : Option Operand} {mk : List α → D} {k : D → Option R} {r : R} (h : slcD st xs lo hi mk k = some r) :
    ∃ l h ys, loD st lo = some l ∧ hiD st xs.length hi = some h ∧ slc xs l h = some ys ∧ k (mk ys) = some r := by
  unfold slcD at h
  split at h
  · rename_i l hh h1 h2
    obtain ⟨ys, h3, h4⟩ := bnd_eq_some h
    exact ⟨l, hh, ys, h1, h2, h3, h4⟩
  · cases h
theorem sliceAt_of {T : TypeId} {d : TypeDesc} {x : Value} {lo hi mx : Option Value} (h : P.underlying T = some d) (hd : ∀ n e, d ≠ .array n e) : (Instr.sliceAt T x lo hi mx).run P w = (Instr.slice T x lo hi mx).run P w := by
  simp only [Instr.sliceAt, Sem.run_bind, run_underlying h, Result.andThen_ok]
theorem RepC.slice {t : Ty} {xs : List t.den} {A : Option Addr} {n c l h : Nat} (hr : RepC M w (.sl t) xs [.slice A n c]) (h1 : l ≤ h) (h2 : h ≤ xs.length) :
    RepC M w (.sl t) ((xs.take h).drop l) [.slice (if c = l then A else A.map (·.add (l * t.sz))) (h - l) (c - l)] := by
  obtain ⟨A', c', e, hc1, hc2, hr⟩ := hr
  simp only [List.cons.injEq, Value.slice.injEq, and_true] at e
  obtain ⟨rfl, rfl, rfl⟩ := e
  have hlen : ((xs.take h).drop l).length = h - l := by rw [List.length_drop, List.length_take]; omega
  refine ⟨_, c - l, by rw [hlen], by omega, by omega, fun i hi => ?_⟩
  rw [hlen] at hi
  have hne : c ≠ l := by omega
  rw [if_neg hne]
  obtain ⟨ad, es, rfl, h3, h4⟩ := hr (l + i) (by omega)
  refine ⟨ad.add (l * t.sz), es, rfl, ?_, ?_⟩
  · have : ((xs.take h).drop l)[i]'(by omega) = xs[l + i]'(by omega) := by simp
    rw [this]; exact h3
  · rw [add_of_add, ← Nat.add_mul]; exact h4
theorem slice_sound {R : Type} (hE : EnvOk P G B0 E) (hs : Sim G B0 M0 w0 gi g st a w) {T : TypeId} {x : Operand} {lo hi : Option Operand} {ty : TypeId} {k : D → Option R} {r : R}
    (h : valD E (.slice T x lo hi none) ty st k = some r) : ∃ d v, k d = some r ∧ RepD (Mof M0 g) w g d v ∧ ∀ w' : World, True → (Instr.sliceAt T (a.eval x) (lo.map a.eval) (hi.map a.eval) none).run P w' = .ok v w' := by
  have hx := hs.ev x
  simp only [valD] at h
  split at h
  · rename_i s hT hd
    rw [hd] at hx
    have hx' := RepD.str hx
    rw [hx']
    obtain ⟨l, hh, ys, h1, h2, h3, h4⟩ := slcD_some h
    obtain ⟨h5, h6, h7, rfl⟩ := slc_some h3
    have hu := und_str (hE.ty _ _ hT)
    refine ⟨_, _, h4, repStr _, fun w' _ => ?_⟩
    rw [sliceAt_of hu (by simp)]
    have hb := run_sliceBounds_ok (P := P) (w := w') (isS := false) (len := (⟨s.toArray⟩ : ByteArray).size) (cap := (⟨s.toArray⟩ : ByteArray).size) (loD_bd hs h1) (hiD_bd hs h2) h5 h6 h7 (Nat.le_refl _)
    simp only [Instr.slice, Sem.run_bind, run_underlying hu, Result.andThen_ok, Option.isSome_none, Bool.false_eq_true, if_false, Sem.run_pure, hb]
    congr 2
    apply ByteArray.ext
    rw [ByteArray.data_extract]
    apply Array.ext'
    rw [Array.toList_extract, List.extract_eq_take_drop]
    simp only [List.drop_take]
  · rename_i t hT hd
    split at h
    · rename_i e t' l h1 h2
      split at h
      · rename_i e1
        subst e1
        have hr := RepV.plain rfl (hs.dat hx h2)
        have hr' := hr
        obtain ⟨A, c, e2, hc1, hc2, _⟩ := hr
        simp only [List.cons.injEq, and_true] at e2
        obtain ⟨lo', hh, ys, h3, h4, h5, h6⟩ := slcD_some h
        obtain ⟨h7, h8, h9, rfl⟩ := slc_some h5
        obtain ⟨hok, bytes, ⟨hu, _⟩, _⟩ := hE.el _ _ _ h1
        rw [e2] at hr' ⊢
        refine ⟨_, _, h6, RepC.toV rfl (RepC.slice hr' (l := lo'.toNat) (h := hh.toNat) (by omega) (by omega)), fun w' _ => ?_⟩
        rw [sliceAt_of hu (by simp)]
        have hb := run_sliceBounds_ok (P := P) (w := w') (isS := true) (len := l.length) (cap := c) (loD_bd hs h3) (hiD_bd hs h4) h7 h8 h9 hc1
        simp only [Instr.slice, Sem.run_bind, run_underlying hu, Result.andThen_ok, Sem.run_pure, hb, run_sizeOf_ok hok]
      · cases h
    · cases h
  · cases h
/-- What is found in a map. -/
theorem bytes_beq (s k : List UInt8) : ((⟨s.toArray⟩ : ByteArray) == ⟨k.toArray⟩) = (s == k) := by
  have : ((⟨s.toArray⟩ : ByteArray) == ⟨k.toArray⟩) = (s.toArray == k.toArray) := rfl
  rw [this]
  simp
theorem findNow_get {e : Ty} (s : List UInt8) : ∀ (m : List (List UInt8 × e.den)) (es : List MapEntry) (i : Nat), All2 (fun x y => y.key = .string ⟨x.1.toArray⟩ ∧ RepV M w e x.2 y.val) m es →
    (mget m s = none ∧ Instr.findNow .string (.string ⟨s.toArray⟩) es i = some none) ∨
    ∃ j x en, mget m s = some x ∧ es[j]? = some en ∧ en.key = .string ⟨s.toArray⟩ ∧ Instr.findNow .string (.string ⟨s.toArray⟩) es i = some (some (i + j, en.val)) ∧ RepV M w e x en.val ∧
      ∀ z : e.den, mset m s z = m.set j (s, z)
  | [], [], i, _ => .inl ⟨rfl, rfl⟩
  | (k, y) :: m, en :: es, i, h => by
    obtain ⟨⟨h1, h2⟩, h3⟩ := h
    simp only at h1 h2
    simp only [mget, Instr.findNow, h1, Instr.sameNow, bytes_beq]
    by_cases hk : (s == k) = true
    · have hk' : s = k := by simpa using hk
      subst hk'
      exact .inr ⟨0, y, en, by simp, rfl, h1, by simp, h2, fun z => by simp [mset]⟩
    · have hk' : (s == k) = false := by simpa using hk
      simp only [hk', if_false, Bool.false_eq_true]
      rcases findNow_get s m es (i + 1) h3 with ⟨a1, a2⟩ | ⟨j, x, en', a1, a2, a3, a4, a5, a6⟩
      · exact .inl ⟨a1, a2⟩
      · exact .inr ⟨j + 1, x, en', a1, a2, a3, by rw [a4, show i + 1 + j = i + (j + 1) from by omega], a5, fun z => by simp [mset, hk', a6 z]⟩
  | [], b :: m, _, h => h.elim
  | a :: l, [], _, h => h.elim
theorem mset_new {α : Type} (m : List (List UInt8 × α)) (s : List UInt8) (x : α) (h : mget m s = none) : mset m s x = m ++ [(s, x)] := by
  induction m with
  | nil => rfl
  | cons y m ih =>
    obtain ⟨k, y⟩ := y
    simp only [mget] at h
    split at h
    · cases h
    · rename_i hk
      simp [mset, hk, ih h]
theorem run_checkKey {T : TypeId} {s : ByteArray} (b : Bool) (h : P.underlying T = some .string) (n : Nat) : (Instr.checkKey b (n + 1) T (.string s)).run P w = .ok () w := by
  simp [Instr.checkKey, run_underlying h]
theorem as_map (hs : Sim G B0 M0 w0 gi g st a w) {e : Ty} {d : D} {v : Value} (hx : RepD (Mof M0 g) w g d v) {m : List (List UInt8 × e.den)} (h : st.as (.mp e) d = some m) :
    ∃ b es c, v = .map (some b) ∧ (∀ w', KeepR (Mof M0 g) g st.hp w w' → w'.heap[b]? = some (.map es c)) ∧ All2 (fun x y => y.key = .string ⟨x.1.toArray⟩ ∧ RepV (Mof M0 g) w e x.2 y.val) m es.toList := by
  unfold St.as at h
  split at h
  · rename_i x hd
    cases h
    obtain ⟨b, es, c, e1, h1, h2, h3⟩ := RepV.plain (t := .mp e) rfl (hs.dat hx hd)
    simp only [List.cons.injEq, and_true] at e1
    exact ⟨b, es, c, e1, fun w' hk => hk.map b es c h1 h2, h3⟩
  · cases d with
    | mref r =>
      simp only [St.lent] at h
      split at h
      · rename_i e' m' hb
        split at h
        · rename_i e1
          injection e1 with e1
          subst e1
          cases h
          obtain ⟨x, b, h1, h1', rfl⟩ := hx
          obtain ⟨x', h2, b', es, c, e2, h3, h4⟩ := hs.hp _ _ hb
          rw [h1] at h2
          cases h2
          subst e2
          have e3 : b' = b := by simpa using h1'
          subst e3
          exact ⟨b', es, c, rfl, fun w' hk => (hk.nm _ _ _ b' hb h1 rfl (lt_of_map h3)).trans h3, h4⟩
        · cases h
      · cases h
    | row r =>
      simp only [St.lent] at h
      split at h
      · split at h
        · rename_i e1; cases e1
        · cases h
      · cases h
    | _ => simp [St.lent] at h
theorem zeroValue_ok {T : TypeId} {t : Ty} (h : TyOk P T t) : (zeroValue T).run P w = .ok (mkV t (zeroC t)) w := by
  obtain ⟨d, h1, _⟩ := h
  cases hi : P.info? T with
  | none => rw [hi] at h1; simp at h1
  | some i =>
    rw [hi] at h1
    simp only [Option.map_some, Option.some.injEq, Prod.mk.injEq] at h1
    simp [zeroValue, typeInfo, hi, h1.2]
theorem lookup_sound {R : Type} (hE : EnvOk P G B0 E) (hs : Sim G B0 M0 w0 gi g st a w) {T : TypeId} {x i : Operand} {ok : Bool} {ty : TypeId} {k : D → Option R} {r : R}
    (h : valD E (.lookup T x i ok) ty st k = some r) : ∃ d v, k d = some r ∧ RepD (Mof M0 g) w g d v ∧ ∀ w', KeepR (Mof M0 g) g st.hp w w' → (Instr.lookup T (a.eval x) (a.eval i) ok).run P w' = .ok v w' := by
  simp only [valD] at h
  split at h
  · rename_i e hT
    split at h
    · rename_i m hm
      obtain ⟨b, es, c, hv, h1, h2⟩ := as_map hs (hs.ev x) hm
      obtain ⟨kt, el, hu, huk, hel⟩ := hE.mp _ _ hT
      unfold lookD at h
      split at h
      · rename_i s hk
        have hi := hs.ev i
        rw [hk] at hi
        have hi' := RepD.str hi
        split at h
        · rename_i z hz
          have hz' := zero_sound (M := Mof M0 g) (w := w) e z hz
          have hck := fun w' => run_checkKey (P := P) (w := w') (s := ⟨s.toArray⟩) es.isEmpty huk 9999
          have hgo : ∀ w', KeepR (Mof M0 g) g st.hp w w' → (getObj b).run P w' = .ok (.map es c) w' := fun w' hE' => by simp [getObj, Sem.run, h1 w' hE']
          rw [hv, hi']
          rcases findNow_get s m es.toList 0 h2 with ⟨a1, a2⟩ | ⟨j, y, en, a1, a2, a3, a4, a5, a6⟩
          · have hrun : ∀ w', KeepR (Mof M0 g) g st.hp w w' → (Instr.lookup T (.map (some b)) (.string ⟨s.toArray⟩) ok).run P w' = .ok (if ok then .tuple #[mkV e (zeroC e), .bool false] else mkV e (zeroC e)) w' := fun w' hE' => by
              simp [Instr.lookup, run_underlying hu, hgo w' hE', hck, Instr.findKey, run_underlying huk, a2, zeroValue_ok hel]
            rw [a1] at h
            cases ok
            · exact ⟨.v e (zero e), _, by simpa using h, show RepV (Mof M0 g) w e _ _ from ⟨_, hz', rfl⟩, fun w' hE' => by simpa using hrun w' hE'⟩
            · exact ⟨.tup [.v e (zero e), .v .bool false], .tuple #[mkV e (zeroC e), .bool false], by simpa using h, ⟨_, rfl, ⟨show RepV (Mof M0 g) w e _ _ from ⟨_, hz', rfl⟩, RepC.toV rfl rfl, trivial⟩⟩, fun w' hE' => by simpa using hrun w' hE'⟩
          · have hrun : ∀ w', KeepR (Mof M0 g) g st.hp w w' → (Instr.lookup T (.map (some b)) (.string ⟨s.toArray⟩) ok).run P w' = .ok (if ok then .tuple #[en.val, .bool true] else en.val) w' := fun w' hE' => by
              simp [Instr.lookup, run_underlying hu, hgo w' hE', hck, Instr.findKey, run_underlying huk, a4]
            rw [a1] at h
            cases ok
            · exact ⟨.v e y, _, by simpa using h, show RepV (Mof M0 g) w e _ _ from a5, fun w' hE' => by simpa using hrun w' hE'⟩
            · exact ⟨.tup [.v e y, .v .bool true], .tuple #[en.val, .bool true], by simpa using h, ⟨_, rfl, ⟨show RepV (Mof M0 g) w e _ _ from a5, RepC.toV rfl rfl, trivial⟩⟩, fun w' hE' => by simpa using hrun w' hE'⟩
        · cases h
      · cases h
    · cases h
  · cases h
theorem foldl_setl (off : Nat) : ∀ (l : List Value) (j : Nat) (cs : Array Value), off + j + l.length ≤ cs.size →
    ((l.zipIdx j).foldl (fun (cs : Array Value) (x : Value × Nat) => cs.setIfInBounds (off + x.2) x.1) cs).toList = cs.toList.take (off + j) ++ l ++ cs.toList.drop (off + j + l.length)
  | [], j, cs, _ => by simp
  | v :: l, j, cs, h => by
    simp only [List.length_cons] at h
    have ih := foldl_setl off l (j + 1) (cs.setIfInBounds (off + j) v) (by rw [Array.size_setIfInBounds]; omega)
    simp only [List.zipIdx_cons, List.foldl_cons]
    rw [ih, Array.toList_setIfInBounds]
    have hlt : off + j < cs.toList.length := by rw [Array.length_toList]; omega
    have e1 : (cs.toList.set (off + j) v).take (off + (j + 1)) = cs.toList.take (off + j) ++ [v] := by
      rw [show off + (j + 1) = (off + j) + 1 from by omega, List.take_succ_eq_append_getElem (by rw [List.length_set]; exact hlt), List.getElem_set_self, List.take_set_of_le (Nat.le_refl _)]
    have e2 : (cs.toList.set (off + j) v).drop (off + (j + 1) + l.length) = cs.toList.drop (off + j + (l.length + 1)) := by
      rw [List.drop_set_of_lt (by omega)]
      congr 1
      omega
    rw [e1, e2]
    simp
theorem foldl_fill (off : Nat) (v cs : Array Value) (h : off + v.size ≤ cs.size) :
    (v.zipIdx.foldl (fun (cs : Array Value) (x : Value × Nat) => cs.setIfInBounds (off + x.2) x.1) cs).toList = cs.toList.take off ++ v.toList ++ cs.toList.drop (off + v.size) := by
  rw [← Array.foldl_toList, Array.toList_zipIdx]
  have := foldl_setl off v.toList 0 cs (by rw [Array.length_toList]; omega)
  rw [this, Array.length_toList, Nat.add_zero]
theorem mapM_get {α β : Type} {f : α → Option β} : ∀ {l : List α} {r : List β}, l.mapM f = some r → ∀ {i : Nat} {x : α}, l[i]? = some x → ∃ y, f x = some y ∧ r[i]? = some y
  | [], r, h, i, x, hx => by simp at hx
  | z :: l, r, h, i, x, hx => by
    simp only [List.mapM_cons, Option.bind_eq_bind, Option.pure_def] at h
    cases hz : f z with
    | none => rw [hz] at h; cases h
    | some y =>
      rw [hz] at h
      cases hl : l.mapM f with
      | none => rw [hl] at h; cases h
      | some r' =>
        rw [hl] at h
        cases h
        match i, hx with
        | 0, hx => simp at hx; subst hx; exact ⟨y, hz, rfl⟩
        | i + 1, hx => simpa using mapM_get hl (i := i) (by simpa using hx)
theorem buildD_sound (hs : Sim G B0 M0 w0 gi g st a w) {T : TypeId} (place : Nat → Option (Nat × Nat)) (hpl : ∀ j off t', E.fld T j = some (off, t') → place j = some (off, t'.sz)) :
    ∀ (ps : List (Nat × Operand)) (ds ds' : List D) (vs : Array Value), All2 (RepD0 (Mof M0 g) w g) ds vs.toList → buildD E st T ps ds = some ds' →
    ∃ vs', Instr.fill place vs (ps.map fun (i, x) => (i, a.eval x)) = some vs' ∧ All2 (RepD0 (Mof M0 g) w g) ds' vs'.toList
  | [], ds, ds', vs, ha, h => by cases h; exact ⟨vs, rfl, ha⟩
  | (j, x) :: ps, ds, ds', vs, ha, h => by
    simp only [buildD] at h
    split at h
    · rename_i off t' hf
      split at h
      · rename_i y hy
        split at h
        · rename_i hle
          have hr := (hs.dat (hs.ev x) hy).cells
          have hl := RepC.len _ _ _ hr
          rw [Array.length_toList] at hl
          have hlen : ds.length = vs.size := by simpa using ha.len
          have hfl := foldl_fill off (a.eval x).cells vs (by omega)
          have ha' : All2 (RepD0 (Mof M0 g) w g) (ds.take off ++ flat t' y ++ ds.drop (off + t'.sz)) ((a.eval x).cells.zipIdx.foldl (fun (cs : Array Value) (x : Value × Nat) => cs.setIfInBounds (off + x.2) x.1) vs).toList := by
            rw [hfl, hl]
            exact ((ha.take off).append (flat_sound t' y _ hr)).append (ha.drop _)
          obtain ⟨vs', h1, h2⟩ := buildD_sound hs place hpl ps _ ds' _ ha' h
          refine ⟨vs', ?_, h2⟩
          simp only [List.map_cons, Instr.fill, hpl _ _ _ hf]
          rw [if_neg (by simp [hl]; omega)]
          exact h1
        · cases h
      · cases h
    · cases h
theorem build_sound {R : Type} (hE : EnvOk P G B0 E) (hs : Sim G B0 M0 w0 gi g st a w) {T : TypeId} {ps : Array (Nat × Operand)} {ty : TypeId} {k : D → Option R} {r : R}
    (h : valD E (.build T ps) ty st k = some r) : ∃ d v, k d = some r ∧ RepD (Mof M0 g) w g d v ∧ ∀ w' : World, True → (Instr.build T (ps.map fun (i, x) => (i, a.eval x))).run P w' = .ok v w' := by
  simp only [valD] at h
  split at h
  · rename_i t hT
    cases ht : t.isAgg
    · rw [ht] at h; cases h
    · rw [ht] at h
      simp only at h
      split at h
      · rename_i ds hz
        split at h
        · rename_i ds' hb
          split at h
          · rename_i x hu
            obtain ⟨fs, places, h1, h2⟩ := hE.bld _ _ hT ht
            have hok := hE.ty _ _ hT
            obtain ⟨d, h3, _⟩ := hok
            cases hi : P.info? T with
            | none => rw [hi] at h3; simp at h3
            | some it =>
              rw [hi] at h3
              simp only [Option.map_some, Option.some.injEq, Prod.mk.injEq] at h3
              have hpl : ∀ j off t', E.fld T j = some (off, t') → places.toArray[j]? = some (off, t'.sz) := by
                intro j off t' hf
                obtain ⟨fs', fd, g1, g2, g3, g4, _⟩ := hE.fld _ _ _ _ hf
                rw [h1] at g1
                injection g1 with g1
                injection g1 with g1
                subst g1
                obtain ⟨y, g5, g6⟩ := mapM_get h2 (i := j) (x := fd) (by simpa using g2)
                rw [List.getElem?_toArray, g6]
                obtain ⟨_, g7, _⟩ := g4
                cases hi2 : P.info? fd.type with
                | none => rw [hi2] at g7; simp at g7
                | some i2 =>
                  rw [hi2] at g7 g5
                  simp only [Option.map_some, Option.some.injEq, Prod.mk.injEq] at g7 g5
                  rw [← g5, g3, g7.1]
              have hz0 := flatZero_sound (M := Mof M0 g) (w := w) (g := g) t ds hz
              obtain ⟨vs', h4, h5⟩ := buildD_sound hs (places.toArray[·]?) hpl ps.toList ds ds' (zeroC t).toArray hz0 hb
              obtain ⟨c1, c2, e1, h6, h7⟩ := unflat_sound hs t h5 hu
              have hc2 : c2 = [] := List.eq_nil_of_length_eq_zero h7.len.symm
              subst hc2
              rw [List.append_nil] at e1
              refine ⟨_, _, h, ⟨c1, h6, rfl⟩, fun w' _ => ?_⟩
              rw [mkV_agg ht, ← e1]
              refine run_build w' T _ _ ?_
              have hbuilt : P.built T (ps.map fun (i, x) => (i, a.eval x)).toList = Instr.fill (places.toArray[·]?) (mkV t (zeroC t)).cells (ps.map fun (i, x) => (i, a.eval x)).toList := by
                simp only [Program.built, hi, h1, h3.2, h2]
              rw [hbuilt, mkV_agg ht, Array.toList_map]
              exact h4
          · cases h
        · cases h
      · cases h
  · cases h
theorem valD_sound {R : Type} (hE : EnvOk P G B0 E) (hs : Sim G B0 M0 w0 gi g st a w) {o : Oper} {k : D → Option R} {r : R} (h : valD E o.op o.type st k = some r) :
    ∃ d v, k d = some r ∧ RepD (Mof M0 g) w g d v ∧ ∀ w', KeepR (Mof M0 g) g st.hp w w' → (execOp a.eval o).run P w' = .ok (.value v) w' := by
  cases ho : o.op with
  | move x => rw [ho] at h; exact ⟨_, _, h, hs.ev x, fun _ _ => by simp [execOp, ho]⟩
  | assign x => rw [ho] at h; exact ⟨_, _, h, hs.ev x, fun _ _ => by simp [execOp, ho]⟩
  | nilCheck x =>
    rw [ho] at h
    have hx := hs.ev x
    simp only [valD] at h
    split at h
    · rename_i r' off hd
      rw [hd] at hx
      obtain ⟨gx, b, hg, hb, e⟩ := hx
      exact ⟨_, _, h, ⟨gx, b, hg, hb, rfl⟩, fun _ _ => by simp [execOp, ho, e]⟩
    · rename_i t y hd
      rw [hd] at hx
      obtain ⟨ad, cs, e, h1, h2⟩ := hx
      exact ⟨_, _, h, ⟨ad, cs, rfl, h1, h2⟩, fun _ _ => by simp [execOp, ho, e]⟩
    · rename_i r' z i off hd
      rw [hd] at hx
      obtain ⟨gx, b, n, c, hg, hb, hi0, hin, e⟩ := hx
      exact ⟨_, _, h, ⟨gx, b, n, c, hg, hb, hi0, hin, rfl⟩, fun _ _ => by simp [execOp, ho, e]⟩
    · rename_i t y hd
      rw [hd] at hx
      obtain ⟨y', hy', h9⟩ := bnd_eq_some h
      clear h
      subst hy'
      obtain ⟨ad, cs, e, h1, h2⟩ := RepD.v_plain (t := .np t) rfl hx
      simp only [List.cons.injEq, and_true] at e
      exact ⟨_, _, h9, ⟨ad, cs, rfl, h1, h2⟩, fun _ _ => by simp [execOp, ho, e]⟩
    · cases h
  | pick c x y =>
    rw [ho] at h
    have hc := hs.ev c
    simp only [valD] at h
    split at h
    · rename_i b hd
      rw [hd] at hc
      have hc' := RepD.bool hc
      rcases br_some h with ⟨e, h⟩ | ⟨e, h⟩
      · exact ⟨_, _, h, hs.ev x, fun _ _ => by simp [execOp, ho, hc', e, asBool]⟩
      · exact ⟨_, _, h, hs.ev y, fun _ _ => by simp [execOp, ho, hc', e, asBool]⟩
    · rename_i hd
      rw [hd] at hc
      have hc' : a.eval c = .bool true := hc
      exact ⟨_, _, h, hs.ev x, fun _ _ => by simp [execOp, ho, hc', asBool]⟩
    · rename_i hd
      rw [hd] at hc
      have hc' : a.eval c = .bool false := hc
      exact ⟨_, _, h, hs.ev y, fun _ _ => by simp [execOp, ho, hc', asBool]⟩
    · cases h
  | binOp op T x y ty =>
    rw [ho] at h
    simp only [valD] at h
    obtain ⟨d, v, h1, h2, h3⟩ := binD_sound hE (ox := x) (oy := y) (nob_sound (hs.ev x)) (nob_sound (hs.ev y)) h
    refine ⟨d, v, h1, h2, fun w' hE' => ?_⟩
    simp only [execOp, ho]
    exact exec_val (h3 w' trivial)
  | unOp op T x =>
    rw [ho] at h
    have hx := hs.ev x
    cases op <;> simp only [valD] at h <;> first | (cases h; done) | skip
    split at h
    · rename_i b hd
      rw [hd] at hx
      have hx' := RepD.bool hx
      exact ⟨_, _, h, repBool _, fun _ _ => by simp [execOp, ho, hx', Op.unary]⟩
    · rename_i b hd
      rw [hd] at hx
      have hx' : a.eval x = .bool b := hx
      exact ⟨_, .bool (!b), h, RepD0.toD (d := .bl !b) rfl, fun _ _ => by simp [execOp, ho, hx', Op.unary]⟩
    · cases h
  | convert S T x =>
    rw [ho] at h
    simp only [valD] at h
    obtain ⟨d, v, h1, h2, h3⟩ := convD_sound hE hs (hs.ev x) h
    exact ⟨d, v, h1, h2, fun w' hE' => by simp only [execOp, ho]; exact exec_val (h3 w' hE')⟩
  | index T x i =>
    rw [ho] at h
    simp only [valD] at h
    split at h
    · rename_i s i' hT hd hi
      have hx := hs.ev x
      have hi2 := hs.ev i
      rw [hd] at hx
      rw [hi] at hi2
      obtain ⟨d, v, h1, h2, h3⟩ := index_sound hE hT hx hi2 h
      exact ⟨d, v, h1, h2, fun w' hE' => by simp only [execOp, ho]; exact exec_val (h3 w' trivial)⟩
    · cases h
  | indexAddr T x i =>
    rw [ho] at h
    simp only [valD] at h
    split at h
    · rename_i e t i' hT hi
      have hi2 := hs.ev i
      rw [hi] at hi2
      split at h
      · rename_i l hl
        obtain ⟨d, v, h1, h2, h3⟩ := indexAddr_sound hE (g := g) hT (hs.dat (hs.ev x) hl) hi2 h
        exact ⟨d, v, h1, h2, fun w' hE' => by simp only [execOp, ho]; exact exec_val (h3 w' trivial)⟩
      · have hx := hs.ev x
        split at h
        · rename_i r' hd
          rw [hd] at hx
          split at h
          · rename_i e1 t' xs hb
            split at h
            · rename_i et
              subst et
              rcases br_some h with ⟨hc, h⟩ | ⟨_, h⟩
              · have hc' := of_decide_eq_true hc
                obtain ⟨gx, hg, hz, cs, h2, h3, h4, h5⟩ := hs.hp _ _ hb
                obtain ⟨gx', A, n, c, h6, h7, h8⟩ := hx
                rw [hg] at h6
                cases h6
                obtain ⟨A', c', e3, hlc, hcm, hrow⟩ := Row.of_own' h2
                have hpos : 0 < xs.length := Int.ofNat_lt.1 (Int.lt_of_le_of_lt hc'.1 hc'.2)
                obtain ⟨b, hv⟩ : ∃ b, gx.v = .slice (some ⟨b, 0, none⟩) xs.length c' := by
                  rcases h2.2 with ⟨_, e9⟩ | ⟨gg, cap, cur, e0, _⟩
                  · exact absurd e9 (Nat.ne_of_gt hpos)
                  · rw [e0] at e3
                    simp only [Value.slice.injEq, true_and] at e3
                    obtain ⟨_, rfl⟩ := e3
                    exact ⟨gg, e0⟩
                have hi' := RepD.int hi2
                obtain ⟨hok, bytes, ⟨hu, _⟩, _⟩ := hE.el _ _ _ hT
                refine ⟨_, .pointer (some ⟨b, i'.toNat * t'.sz + 0, none⟩), h, ⟨gx, b, xs.length, c', hg, hv, hc'.1, hc'.2, rfl⟩, fun w' _ => ?_⟩
                have hxv : a.eval x = .slice (some ⟨b, 0, none⟩) xs.length c' := h7.trans hv
                have hcond : 0 ≤ i' ∧ i' < (xs.length : Int) := hc'
                have := Addr.add_box b 0 (i'.toNat * t'.sz)
                rw [Nat.zero_add] at this
                simp [execOp, ho, hxv, hi', Instr.indexAt, asIntOf, run_underlying hu, hcond, run_sizeOf_ok hok, this]
              · cases h
            · cases h
          · cases h
        · cases h
    · cases h
  | fieldAddr T x f =>
    rw [ho] at h
    obtain ⟨d, v, h1, h2, h3⟩ := fieldAddr_sound hE hs h
    exact ⟨d, v, h1, h2, fun w' _ => by simp only [execOp, ho]; exact exec_val (h3 w')⟩
  | field T x f =>
    rw [ho] at h
    obtain ⟨d, v, h1, h2, h3⟩ := field_sound hE hs h
    exact ⟨d, v, h1, h2, fun w' hE' => by simp only [execOp, ho]; exact exec_val (h3 w' trivial)⟩
  | load T x =>
    rw [ho] at h
    obtain ⟨d, v, h1, h2, h3⟩ := load_sound hE hs h
    exact ⟨d, v, h1, h2, fun w' hE' => by simp only [execOp, ho]; exact exec_val (h3 w' hE')⟩
  | slice T x lo hi mx =>
    rw [ho] at h
    cases mx with
    | some m => simp [valD] at h
    | none =>
      obtain ⟨d, v, h1, h2, h3⟩ := slice_sound hE hs h
      exact ⟨d, v, h1, h2, fun w' hE' => by simp only [execOp, ho]; exact exec_val (h3 w' trivial)⟩
  | lookup T x i ok =>
    rw [ho] at h
    obtain ⟨d, v, h1, h2, h3⟩ := lookup_sound hE hs h
    exact ⟨d, v, h1, h2, fun w' hE' => by simp only [execOp, ho]; exact exec_val (h3 w' hE')⟩
  | extract x i =>
    rw [ho] at h
    have hx := hs.ev x
    simp only [valD] at h
    split at h
    · rename_i l hd
      rw [hd] at hx
      obtain ⟨vs, e, ha⟩ := hx
      split at h
      · rename_i d hdl
        obtain ⟨v, hv, hr⟩ := ha.get hdl
        rw [Array.getElem?_toList] at hv
        exact ⟨d, v, h, hr.toD, fun _ _ => by simp [execOp, ho, e, Instr.extract, hv]⟩
      · cases h
    · cases h
  | build T ps =>
    rw [ho] at h
    obtain ⟨d, v, h1, h2, h3⟩ := build_sound hE hs h
    exact ⟨d, v, h1, h2, fun w' hE' => by simp only [execOp, ho]; exact exec_val (h3 w' trivial)⟩
  | call c =>
    rw [ho] at h
    simp only [valD] at h
    split at h
    · rename_i x hc ha
      obtain ⟨T, hT⟩ : ∃ T, c.argTypes[0]? = some T := by
        cases hh : c.argTypes[0]? with
        | some T => exact ⟨T, rfl⟩
        | none =>
          rw [hh] at h
          simp only [Option.bind_none, lenD] at h
          split at h <;> first | (cases h; done) | skip
          all_goals simp at h
      rw [hT] at h
      obtain ⟨d, v, h1, h2, h3⟩ := lenD_sound hE (ty := o.type) hs (hs.ev x) h
      refine ⟨d, v, h1, h2, fun w' hE' => ?_⟩
      have hargs : c.args = #[x] := by
        apply Array.ext'
        simpa using ha
      have hl : Builtin.len_ c.argTypes o.type #[a.eval x] = Builtin.len_ #[T] o.type #[a.eval x] := by
        simp only [Builtin.len_, hT, List.getElem?_toArray, List.getElem?_cons_zero]
      simp only [execOp, ho, resolve, hc, hargs, invoke, builtin, Sem.run_bind, Sem.run_pure, Result.andThen_ok, List.map_toArray, List.map_cons, List.map_nil, hl, h3 w' hE']
    · cases h
  | _ => rw [ho] at h; simp [valD] at h
/-- Operations that yield the same in every world. -/
theorem valD_still {R : Type} (hE : EnvOk P G B0 E) (hs : Sim G B0 M0 w0 gi g st a w) {o : Oper} {k : D → Option R} {r : R} (hk : stillKind o.op = true) (h : valD E o.op o.type st k = some r) :
    ∃ d v, k d = some r ∧ RepD (Mof M0 g) w g d v ∧ ∀ w', True → (execOp a.eval o).run P w' = .ok (.value v) w' := by
  cases ho : o.op with
  | move x => rw [ho] at h; exact ⟨_, _, h, hs.ev x, fun _ _ => by simp [execOp, ho]⟩
  | assign x => rw [ho] at h; exact ⟨_, _, h, hs.ev x, fun _ _ => by simp [execOp, ho]⟩
  | nilCheck x =>
    rw [ho] at h
    have hx := hs.ev x
    simp only [valD] at h
    split at h
    · rename_i r' off hd
      rw [hd] at hx
      obtain ⟨gx, b, hg, hb, e⟩ := hx
      exact ⟨_, _, h, ⟨gx, b, hg, hb, rfl⟩, fun _ _ => by simp [execOp, ho, e]⟩
    · rename_i t y hd
      rw [hd] at hx
      obtain ⟨ad, cs, e, h1, h2⟩ := hx
      exact ⟨_, _, h, ⟨ad, cs, rfl, h1, h2⟩, fun _ _ => by simp [execOp, ho, e]⟩
    · rename_i r' z i off hd
      rw [hd] at hx
      obtain ⟨gx, b, n, c, hg, hb, hi0, hin, e⟩ := hx
      exact ⟨_, _, h, ⟨gx, b, n, c, hg, hb, hi0, hin, rfl⟩, fun _ _ => by simp [execOp, ho, e]⟩
    · rename_i t y hd
      rw [hd] at hx
      obtain ⟨y', hy', h9⟩ := bnd_eq_some h
      clear h
      subst hy'
      obtain ⟨ad, cs, e, h1, h2⟩ := RepD.v_plain (t := .np t) rfl hx
      simp only [List.cons.injEq, and_true] at e
      exact ⟨_, _, h9, ⟨ad, cs, rfl, h1, h2⟩, fun _ _ => by simp [execOp, ho, e]⟩
    · cases h
  | pick c x y =>
    rw [ho] at h
    have hc := hs.ev c
    simp only [valD] at h
    split at h
    · rename_i b hd
      rw [hd] at hc
      have hc' := RepD.bool hc
      rcases br_some h with ⟨e, h⟩ | ⟨e, h⟩
      · exact ⟨_, _, h, hs.ev x, fun _ _ => by simp [execOp, ho, hc', e, asBool]⟩
      · exact ⟨_, _, h, hs.ev y, fun _ _ => by simp [execOp, ho, hc', e, asBool]⟩
    · rename_i hd
      rw [hd] at hc
      have hc' : a.eval c = .bool true := hc
      exact ⟨_, _, h, hs.ev x, fun _ _ => by simp [execOp, ho, hc', asBool]⟩
    · rename_i hd
      rw [hd] at hc
      have hc' : a.eval c = .bool false := hc
      exact ⟨_, _, h, hs.ev y, fun _ _ => by simp [execOp, ho, hc', asBool]⟩
    · cases h
  | binOp op T x y ty =>
    rw [ho] at h
    simp only [valD] at h
    obtain ⟨d, v, h1, h2, h3⟩ := binD_sound hE (ox := x) (oy := y) (nob_sound (hs.ev x)) (nob_sound (hs.ev y)) h
    refine ⟨d, v, h1, h2, fun w' _ => ?_⟩
    simp only [execOp, ho]
    exact exec_val (h3 w' trivial)
  | unOp op T x =>
    rw [ho] at h
    have hx := hs.ev x
    cases op <;> simp only [valD] at h <;> first | (cases h; done) | skip
    split at h
    · rename_i b hd
      rw [hd] at hx
      have hx' := RepD.bool hx
      exact ⟨_, _, h, repBool _, fun _ _ => by simp [execOp, ho, hx', Op.unary]⟩
    · rename_i b hd
      rw [hd] at hx
      have hx' : a.eval x = .bool b := hx
      exact ⟨_, .bool (!b), h, RepD0.toD (d := .bl !b) rfl, fun _ _ => by simp [execOp, ho, hx', Op.unary]⟩
    · cases h
  | convert S T x => rw [ho] at hk; cases hk
  | index T x i =>
    rw [ho] at h
    simp only [valD] at h
    split at h
    · rename_i s i' hT hd hi
      have hx := hs.ev x
      have hi2 := hs.ev i
      rw [hd] at hx
      rw [hi] at hi2
      obtain ⟨d, v, h1, h2, h3⟩ := index_sound hE hT hx hi2 h
      exact ⟨d, v, h1, h2, fun w' _ => by simp only [execOp, ho]; exact exec_val (h3 w' trivial)⟩
    · cases h
  | indexAddr T x i =>
    rw [ho] at h
    simp only [valD] at h
    split at h
    · rename_i e t i' hT hi
      have hi2 := hs.ev i
      rw [hi] at hi2
      split at h
      · rename_i l hl
        obtain ⟨d, v, h1, h2, h3⟩ := indexAddr_sound hE (g := g) hT (hs.dat (hs.ev x) hl) hi2 h
        exact ⟨d, v, h1, h2, fun w' _ => by simp only [execOp, ho]; exact exec_val (h3 w' trivial)⟩
      · have hx := hs.ev x
        split at h
        · rename_i r' hd
          rw [hd] at hx
          split at h
          · rename_i e1 t' xs hb
            split at h
            · rename_i et
              subst et
              rcases br_some h with ⟨hc, h⟩ | ⟨_, h⟩
              · have hc' := of_decide_eq_true hc
                obtain ⟨gx, hg, hz, cs, h2, h3, h4, h5⟩ := hs.hp _ _ hb
                obtain ⟨gx', A, n, c, h6, h7, h8⟩ := hx
                rw [hg] at h6
                cases h6
                obtain ⟨A', c', e3, hlc, hcm, hrow⟩ := Row.of_own' h2
                have hpos : 0 < xs.length := Int.ofNat_lt.1 (Int.lt_of_le_of_lt hc'.1 hc'.2)
                obtain ⟨b, hv⟩ : ∃ b, gx.v = .slice (some ⟨b, 0, none⟩) xs.length c' := by
                  rcases h2.2 with ⟨_, e9⟩ | ⟨gg, cap, cur, e0, _⟩
                  · exact absurd e9 (Nat.ne_of_gt hpos)
                  · rw [e0] at e3
                    simp only [Value.slice.injEq, true_and] at e3
                    obtain ⟨_, rfl⟩ := e3
                    exact ⟨gg, e0⟩
                have hi' := RepD.int hi2
                obtain ⟨hok, bytes, ⟨hu, _⟩, _⟩ := hE.el _ _ _ hT
                refine ⟨_, .pointer (some ⟨b, i'.toNat * t'.sz + 0, none⟩), h, ⟨gx, b, xs.length, c', hg, hv, hc'.1, hc'.2, rfl⟩, fun w' _ => ?_⟩
                have hxv : a.eval x = .slice (some ⟨b, 0, none⟩) xs.length c' := h7.trans hv
                have hcond : 0 ≤ i' ∧ i' < (xs.length : Int) := hc'
                have := Addr.add_box b 0 (i'.toNat * t'.sz)
                rw [Nat.zero_add] at this
                simp [execOp, ho, hxv, hi', Instr.indexAt, asIntOf, run_underlying hu, hcond, run_sizeOf_ok hok, this]
              · cases h
            · cases h
          · cases h
        · cases h
    · cases h
  | fieldAddr T x f =>
    rw [ho] at h
    obtain ⟨d, v, h1, h2, h3⟩ := fieldAddr_sound hE hs h
    exact ⟨d, v, h1, h2, fun w' _ => by simp only [execOp, ho]; exact exec_val (h3 w')⟩
  | field T x f =>
    rw [ho] at h
    obtain ⟨d, v, h1, h2, h3⟩ := field_sound hE hs h
    exact ⟨d, v, h1, h2, fun w' _ => by simp only [execOp, ho]; exact exec_val (h3 w' trivial)⟩
  | load T x => rw [ho] at hk; cases hk
  | slice T x lo hi mx => rw [ho] at hk; cases hk
  | lookup T x i ok => rw [ho] at hk; cases hk
  | extract x i =>
    rw [ho] at h
    have hx := hs.ev x
    simp only [valD] at h
    split at h
    · rename_i l hd
      rw [hd] at hx
      obtain ⟨vs, e, ha⟩ := hx
      split at h
      · rename_i d hdl
        obtain ⟨v, hv, hr⟩ := ha.get hdl
        rw [Array.getElem?_toList] at hv
        exact ⟨d, v, h, hr.toD, fun _ _ => by simp [execOp, ho, e, Instr.extract, hv]⟩
      · cases h
    · cases h
  | build T ps => rw [ho] at hk; cases hk
  | call c => rw [ho] at hk; cases hk
  | _ => rw [ho] at h; simp [valD] at h
end
end Go.Proofs.YtbekhaioddmliaaDoor
