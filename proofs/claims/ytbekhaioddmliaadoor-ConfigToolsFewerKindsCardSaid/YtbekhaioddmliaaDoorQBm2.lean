/- What it means that a value in memory is some plain data; what later worlds keep of it. -/
import Derived.Test.YtbekhaioddmliaaDoorQBm1
import Derived.Test.YtbekhaioddmliaaDoorQApp
namespace Go.Proofs.YtbekhaioddmliaaDoor
set_option linter.unusedVariables false
set_option linter.unusedSimpArgs false
open Go Go.RowKit

/-- Two lists, member by member. -/
def All2 {α β : Type} (R : α → β → Prop) : List α → List β → Prop
  | [], [] => True
  | a :: l, b :: m => R a b ∧ All2 R l m
  | _, _ => False
theorem All2.len {α β : Type} {R : α → β → Prop} : ∀ {l : List α} {m : List β}, All2 R l m → l.length = m.length
  | [], [], _ => rfl
  | a :: l, b :: m, h => by simp only [List.length_cons]; rw [All2.len h.2]
  | [], b :: m, h => h.elim
  | a :: l, [], h => h.elim
theorem All2.get {α β : Type} {R : α → β → Prop} : ∀ {l : List α} {m : List β}, All2 R l m → ∀ {i : Nat} {a : α}, l[i]? = some a → ∃ b, m[i]? = some b ∧ R a b
  | [], [], _, i, a, h => by simp at h
  | x :: l, y :: m, h, 0, a, ha => by simp at ha; subst ha; exact ⟨y, rfl, h.1⟩
  | x :: l, y :: m, h, i + 1, a, ha => by simpa using All2.get h.2 (i := i) (by simpa using ha)
  | [], b :: m, h, _, _, _ => h.elim
  | a :: l, [], h, _, _, _ => h.elim
theorem All2.get' {α β : Type} {R : α → β → Prop} : ∀ {l : List α} {m : List β}, All2 R l m → ∀ {i : Nat} {b : β}, m[i]? = some b → ∃ a, l[i]? = some a ∧ R a b
  | [], [], _, i, a, h => by simp at h
  | x :: l, y :: m, h, 0, a, ha => by simp at ha; subst ha; exact ⟨x, rfl, h.1⟩
  | x :: l, y :: m, h, i + 1, a, ha => by simpa using All2.get' h.2 (i := i) (by simpa using ha)
  | [], b :: m, h, _, _, _ => h.elim
  | a :: l, [], h, _, _, _ => h.elim
theorem All2.set {α β : Type} {R : α → β → Prop} : ∀ {l : List α} {m : List β}, All2 R l m → ∀ (i : Nat) {a : α} {b : β}, R a b → All2 R (l.set i a) (m.set i b)
  | [], [], _, i, a, b, _ => by simp [All2]
  | x :: l, y :: m, h, 0, a, b, hr => ⟨hr, h.2⟩
  | x :: l, y :: m, h, i + 1, a, b, hr => ⟨h.1, All2.set h.2 i hr⟩
  | [], b :: m, h, _, _, _, _ => h.elim
  | a :: l, [], h, _, _, _, _ => h.elim
/-- Only on one side something is set. -/
theorem All2.setL {α β : Type} {R : α → β → Prop} {l : List α} {m : List β} (h : All2 R l m) {i : Nat} {a : α} {b : β} (hm : m[i]? = some b) (hr : R a b) : All2 R (l.set i a) m := by
  have := h.set i hr
  obtain ⟨hi, e⟩ := List.getElem?_eq_some_iff.1 hm
  have e2 : m.set i b = m := by rw [← e]; exact List.set_getElem_self hi
  rwa [e2] at this
theorem All2.mono {α β : Type} {R R' : α → β → Prop} (hR : ∀ a b, R a b → R' a b) : ∀ {l : List α} {m : List β}, All2 R l m → All2 R' l m
  | [], [], _ => True.intro
  | x :: l, y :: m, h => ⟨hR _ _ h.1, All2.mono hR h.2⟩
  | [], b :: m, h => h.elim
  | a :: l, [], h => h.elim
theorem All2.mapL {α β γ : Type} {R : α → β → Prop} {R' : γ → β → Prop} (f : α → γ) (hR : ∀ a b, R a b → R' (f a) b) : ∀ {l : List α} {m : List β}, All2 R l m → All2 R' (l.map f) m
  | [], [], _ => True.intro
  | x :: l, y :: m, h => ⟨hR _ _ h.1, All2.mapL f hR h.2⟩
  | [], b :: m, h => h.elim
  | a :: l, [], h => h.elim
theorem All2.append {α β : Type} {R : α → β → Prop} : ∀ {l : List α} {m : List β} {l' : List α} {m' : List β}, All2 R l m → All2 R l' m' → All2 R (l ++ l') (m ++ m')
  | [], [], _, _, _, h => h
  | x :: l, y :: m, _, _, h, h' => ⟨h.1, All2.append h.2 h'⟩
  | [], b :: m, _, _, h, _ => h.elim
  | a :: l, [], _, _, h, _ => h.elim
theorem All2.take {α β : Type} {R : α → β → Prop} : ∀ (n : Nat) {l : List α} {m : List β}, All2 R l m → All2 R (l.take n) (m.take n)
  | 0, _, _, _ => by simp [All2]
  | n + 1, [], [], _ => by simp [All2]
  | n + 1, x :: l, y :: m, h => ⟨h.1, All2.take n h.2⟩
  | _ + 1, [], b :: m, h => h.elim
  | _ + 1, a :: l, [], h => h.elim
theorem All2.drop {α β : Type} {R : α → β → Prop} : ∀ (n : Nat) {l : List α} {m : List β}, All2 R l m → All2 R (l.drop n) (m.drop n)
  | 0, _, _, h => h
  | n + 1, [], [], _ => by simp [All2]
  | n + 1, x :: l, y :: m, h => All2.drop n h.2
  | _ + 1, [], b :: m, h => h.elim
  | _ + 1, a :: l, [], h => h.elim
theorem All2.replicate {α β : Type} {R : α → β → Prop} {a : α} {b : β} (h : R a b) : ∀ n, All2 R (List.replicate n a) (List.replicate n b)
  | 0 => True.intro
  | n + 1 => ⟨h, All2.replicate h n⟩

/-- What of memory a later world keeps: all cells and maps outside what may change. 'M b o': cell o of block b may change (of a map: cell 0). -/
def Step (M : Nat → Nat → Prop) (w : World) (M' : Nat → Nat → Prop) (w' : World) : Prop :=
  (∀ ad u, w.cell? ad = some u → ¬ M ad.block ad.off → w'.cell? ad = some u ∧ ¬ M' ad.block ad.off) ∧
  (∀ b es c, w.heap[b]? = some (.map es c) → ¬ M b 0 → w'.heap[b]? = some (.map es c) ∧ ¬ M' b 0)
theorem Step.refl (M : Nat → Nat → Prop) (w : World) : Step M w M w := ⟨fun _ _ h h' => ⟨h, h'⟩, fun _ _ _ h h' => ⟨h, h'⟩⟩
theorem Step.trans {M M' M'' : Nat → Nat → Prop} {w w' w'' : World} (h : Step M w M' w') (h' : Step M' w' M'' w'') : Step M w M'' w'' :=
  ⟨fun _ _ a b => let ⟨c, d⟩ := h.1 _ _ a b; h'.1 _ _ c d, fun _ _ _ a b => let ⟨c, d⟩ := h.2 _ _ _ a b; h'.2 _ _ _ c d⟩
theorem lt_of_map {w : World} {b : Nat} {o : Obj} (h : w.heap[b]? = some o) : b < w.heap.size := by
  rcases Nat.lt_or_ge b w.heap.size with h' | h'
  · exact h'
  · rw [Array.getElem?_eq_none h'] at h; cases h
theorem Step.ext {M : Nat → Nat → Prop} {w w' : World} (h : Ext w w') : Step M w M w' :=
  ⟨fun _ _ a b => ⟨h.cell a, b⟩, fun b _ _ a c => ⟨(h.block b (lt_of_map a)).trans a, c⟩⟩

/-- Behind an address lie these cells, and they stay. -/
def Pl (M : Nat → Nat → Prop) (w : World) (ad : Addr) (cs : List Value) : Prop :=
  ∀ j u, cs[j]? = some u → w.cell? (ad.add j) = some u ∧ ¬ M (ad.add j).block (ad.add j).off
theorem Pl.step {M M' : Nat → Nat → Prop} {w w' : World} {ad : Addr} {cs : List Value} (h : Pl M w ad cs) (hs : Step M w M' w') : Pl M' w' ad cs :=
  fun j u hu => let ⟨a, b⟩ := h j u hu; hs.1 _ _ a b
theorem Pl.drop {M : Nat → Nat → Prop} {w : World} {ad : Addr} {cs : List Value} (h : Pl M w ad cs) (k : Nat) : Pl M w (ad.add k) (cs.drop k) :=
  fun j u hu => by rw [add_of_add]; exact h _ u (by rw [← hu, List.getElem?_drop])
theorem Pl.take {M : Nat → Nat → Prop} {w : World} {ad : Addr} {cs : List Value} (h : Pl M w ad cs) (k : Nat) : Pl M w ad (cs.take k) :=
  fun j u hu => h _ u (by
    rw [List.getElem?_take] at hu
    split at hu
    · exact hu
    · cases hu)

/-- The value that has these cells. -/
def mkV (t : Ty) (cs : List Value) : Value := match t.isAgg, cs with
  | true, cs => .agg cs.toArray
  | false, c :: _ => c
  | false, [] => undef
/-- The cells of some data, but for types that speak of themselves: these by RR. -/
def RepG (RR : (i : RC) → i.den → List Value → Prop) (M : Nat → Nat → Prop) (w : World) : (t : Ty) → t.den → List Value → Prop
  | .u8, x, cs => cs = [.int .u8 x.toNat]
  | .int k, x, cs => cs = [.int k x]
  | .bool, x, cs => cs = [.bool x]
  | .str, x, cs => cs = [.string ⟨x.toArray⟩]
  | .sl t, xs, cs => ∃ A c, cs = [.slice A xs.length c] ∧ xs.length ≤ c ∧ c ≤ maxLen ∧
      ∀ i (h : i < xs.length), ∃ ad es, A = some ad ∧ RepG RR M w t xs[i] es ∧ Pl M w (ad.add (i * t.sz)) es
  | .pr a b, x, cs => ∃ c1 c2, cs = c1 ++ c2 ∧ RepG RR M w a x.1 c1 ∧ RepG RR M w b x.2 c2
  | .un, _, cs => cs = []
  | .mp e, m, cs => ∃ b es c, cs = [.map (some b)] ∧ w.heap[b]? = some (.map es c) ∧ ¬ M b 0 ∧
      All2 (fun x y => y.key = .string ⟨x.1.toArray⟩ ∧ ∃ cs, RepG RR M w e x.2 cs ∧ y.val = mkV e cs) m es.toList
  | .ptr t, x, cs => ∃ ad es, cs = [.pointer (some ad)] ∧ RepG RR M w t x es ∧ Pl M w ad es
  | .np t, x, cs => match x with
    | none => cs = [.pointer none]
    | some x => ∃ ad es, cs = [.pointer (some ad)] ∧ RepG RR M w t x es ∧ Pl M w ad es
  | .clo f t, x, cs => ∃ caps : Array Value, cs = [.func (.func f) #[] caps] ∧ RepG RR M w t x caps.toList
  | .rc i, x, cs => RR i x cs
/-- Of types that speak of themselves: what follows by finitely many steps. -/
def RRs (M : Nat → Nat → Prop) (w : World) (i : RC) (x : i.den) (cs : List Value) : Prop :=
  ∀ RR : (i : RC) → i.den → List Value → Prop, (∀ j y ds, RepG RR M w j.body (j.un y) ds → RR j y ds) → RR i x cs
/-- The cells of some data. -/
def RepC (M : Nat → Nat → Prop) (w : World) : (t : Ty) → t.den → List Value → Prop := RepG (RRs M w) M w
theorem RepG.mono {RR RR' : (i : RC) → i.den → List Value → Prop} {M M' : Nat → Nat → Prop} {w w' : World} (hs : Step M w M' w') (hR : ∀ i x cs, RR i x cs → RR' i x cs) :
    ∀ (t : Ty) (x : t.den) (cs : List Value), RepG RR M w t x cs → RepG RR' M' w' t x cs
  | .u8, _, _, h => h
  | .int _, _, _, h => h
  | .bool, _, _, h => h
  | .str, _, _, h => h
  | .sl t, _, _, h => by
    obtain ⟨A, c, rfl, h1, h2, h3⟩ := h
    refine ⟨A, c, rfl, h1, h2, fun i hi => ?_⟩
    obtain ⟨ad, es, e, hr, hp⟩ := h3 i hi
    exact ⟨ad, es, e, RepG.mono hs hR t _ _ hr, hp.step hs⟩
  | .pr a b, x, _, h => by
    obtain ⟨c1, c2, rfl, h1, h2⟩ := h
    exact ⟨c1, c2, rfl, RepG.mono hs hR a _ _ h1, RepG.mono hs hR b _ _ h2⟩
  | .un, _, _, h => h
  | .mp e, _, _, h => by
    obtain ⟨b, es, c, rfl, h1, h2, h3⟩ := h
    obtain ⟨h4, h5⟩ := hs.2 _ _ _ h1 h2
    exact ⟨b, es, c, rfl, h4, h5, h3.mono fun x y ⟨a, cs, hr, hv⟩ => ⟨a, cs, RepG.mono hs hR e _ _ hr, hv⟩⟩
  | .ptr t, _, _, h => by
    obtain ⟨ad, es, rfl, h1, h2⟩ := h
    exact ⟨ad, es, rfl, RepG.mono hs hR t _ _ h1, h2.step hs⟩
  | .np t, x, _, h => by
    cases x with
    | none => exact h
    | some x =>
      obtain ⟨ad, es, rfl, h1, h2⟩ := h
      exact ⟨ad, es, rfl, RepG.mono hs hR t _ _ h1, h2.step hs⟩
  | .clo _ t, _, _, h => by
    obtain ⟨c, rfl, h1⟩ := h
    exact ⟨c, rfl, RepG.mono hs hR t _ _ h1⟩
  | .rc i, x, cs, h => hR i x cs h
theorem RRs.intro {M : Nat → Nat → Prop} {w : World} {i : RC} {x : i.den} {cs : List Value} (h : RepC M w i.body (i.un x) cs) : RRs M w i x cs :=
  fun RR hRR => hRR _ _ _ (RepG.mono (Step.refl M w) (fun _ _ _ h => h RR hRR) _ _ _ h)
theorem RRs.elim {M : Nat → Nat → Prop} {w : World} {i : RC} {x : i.den} {cs : List Value} (h : RRs M w i x cs) : RepC M w i.body (i.un x) cs :=
  h (fun i x cs => RepC M w i.body (i.un x) cs) fun _ _ _ h' => RepG.mono (Step.refl M w) (fun _ _ _ h2 => RRs.intro h2) _ _ _ h'
theorem RRs.step {M M' : Nat → Nat → Prop} {w w' : World} (hs : Step M w M' w') {i : RC} {x : i.den} {cs : List Value} (h : RRs M w i x cs) : RRs M' w' i x cs :=
  h (fun i x cs => RRs M' w' i x cs) fun _ _ _ h' => RRs.intro (RepG.mono hs (fun _ _ _ h => h) _ _ _ h')
theorem RepC.rc {M : Nat → Nat → Prop} {w : World} {i : RC} {x : i.den} {cs : List Value} : RepC M w (.rc i) x cs ↔ RepC M w i.body (i.un x) cs := ⟨RRs.elim, RRs.intro⟩
theorem RepG.len {RR : (i : RC) → i.den → List Value → Prop} {M : Nat → Nat → Prop} {w : World} (hR : ∀ i x cs, RR i x cs → cs.length = i.sz) : ∀ (t : Ty) (x : t.den) (cs : List Value), RepG RR M w t x cs → cs.length = t.sz
  | .u8, _, _, h => by rw [h]; rfl
  | .int _, _, _, h => by rw [h]; rfl
  | .bool, _, _, h => by rw [h]; rfl
  | .str, _, _, h => by rw [h]; rfl
  | .sl _, _, _, h => by obtain ⟨A, c, rfl, _⟩ := h; rfl
  | .pr a b, x, _, h => by obtain ⟨c1, c2, rfl, h1, h2⟩ := h; rw [List.length_append, RepG.len hR a _ _ h1, RepG.len hR b _ _ h2]; rfl
  | .un, _, _, h => by rw [h]; rfl
  | .mp _, _, _, h => by obtain ⟨b, es, c, rfl, _⟩ := h; rfl
  | .ptr _, _, _, h => by obtain ⟨ad, es, rfl, _⟩ := h; rfl
  | .np _, x, _, h => by
    cases x with
    | none => rw [show _ = _ from h]; rfl
    | some x => obtain ⟨ad, es, rfl, _⟩ := h; rfl
  | .clo _ _, _, _, h => by obtain ⟨c, rfl, _⟩ := h; rfl
  | .rc i, x, cs, h => hR i x cs h
theorem RRs.len {M : Nat → Nat → Prop} {w : World} {i : RC} {x : i.den} {cs : List Value} (h : RRs M w i x cs) : cs.length = i.sz :=
  h (fun i _ cs => cs.length = i.sz) fun j y ds h' => (RepG.len (fun _ _ _ h => h) _ _ _ h').trans (RC.sz_body j)
theorem RepC.len {M : Nat → Nat → Prop} {w : World} (t : Ty) (x : t.den) (cs : List Value) (h : RepC M w t x cs) : cs.length = t.sz := RepG.len (fun _ _ _ h => RRs.len h) t x cs h
theorem RepG.one {RR : (i : RC) → i.den → List Value → Prop} {M : Nat → Nat → Prop} {w : World} (hR : ∀ i x cs, RR i x cs → ∀ u ∈ cs, u.oneCell' = true) : ∀ (t : Ty) (x : t.den) (cs : List Value), RepG RR M w t x cs → ∀ u ∈ cs, u.oneCell' = true
  | .u8, _, _, h => by rw [h]; simp [Value.oneCell']
  | .int _, _, _, h => by rw [h]; simp [Value.oneCell']
  | .bool, _, _, h => by rw [h]; simp [Value.oneCell']
  | .str, _, _, h => by rw [h]; simp [Value.oneCell']
  | .sl _, _, _, h => by obtain ⟨A, c, rfl, _⟩ := h; simp [Value.oneCell']
  | .pr a b, x, _, h => by
    obtain ⟨c1, c2, rfl, h1, h2⟩ := h
    intro u hu
    rcases List.mem_append.1 hu with hu | hu
    · exact RepG.one hR a _ _ h1 u hu
    · exact RepG.one hR b _ _ h2 u hu
  | .un, _, _, h => by rw [h]; simp
  | .mp _, _, _, h => by obtain ⟨b, es, c, rfl, _⟩ := h; simp [Value.oneCell']
  | .ptr _, _, _, h => by obtain ⟨ad, es, rfl, _⟩ := h; simp [Value.oneCell']
  | .np _, x, _, h => by
    cases x with
    | none => rw [show _ = _ from h]; simp [Value.oneCell']
    | some x => obtain ⟨ad, es, rfl, _⟩ := h; simp [Value.oneCell']
  | .clo _ _, _, _, h => by obtain ⟨c, rfl, _⟩ := h; simp [Value.oneCell']
  | .rc i, x, cs, h => hR i x cs h
theorem RepC.one {M : Nat → Nat → Prop} {w : World} (t : Ty) (x : t.den) (cs : List Value) (h : RepC M w t x cs) : ∀ u ∈ cs, u.oneCell' = true :=
  RepG.one (fun _ _ _ h => h (fun _ _ cs => ∀ u ∈ cs, u.oneCell' = true) fun j y ds h' => RepG.one (fun _ _ _ h => h) _ _ _ h') t x cs h
theorem RepC.step {M M' : Nat → Nat → Prop} {w w' : World} (hs : Step M w M' w') (t : Ty) (x : t.den) (cs : List Value) (h : RepC M w t x cs) : RepC M' w' t x cs :=
  RepG.mono hs (fun _ _ _ h => RRs.step hs h) t x cs h
/-- The value that is some data. -/
def RepV (M : Nat → Nat → Prop) (w : World) (t : Ty) (x : t.den) (v : Value) : Prop := ∃ cs, RepC M w t x cs ∧ v = mkV t cs
theorem RepV.step {M M' : Nat → Nat → Prop} {w w' : World} (hs : Step M w M' w') {t : Ty} {x : t.den} {v : Value} (h : RepV M w t x v) : RepV M' w' t x v :=
  let ⟨cs, h1, h2⟩ := h; ⟨cs, RepC.step hs t x cs h1, h2⟩
theorem sz_of_plain {t : Ty} (h : t.isAgg = false) : t.sz = 1 := by cases t <;> first | rfl | simp [Ty.isAgg] at h
theorem mkV_plain {t : Ty} (h : t.isAgg = false) (c : Value) : mkV t [c] = c := by simp [mkV, h]
theorem mkV_agg {t : Ty} (h : t.isAgg = true) (cs : List Value) : mkV t cs = .agg cs.toArray := by simp [mkV, h]
/-- Of data that are no struct the one cell is the value. -/
theorem RepV.plain {M : Nat → Nat → Prop} {w : World} {t : Ty} {x : t.den} {v : Value} (ht : t.isAgg = false) (h : RepV M w t x v) : RepC M w t x [v] := by
  obtain ⟨cs, h1, rfl⟩ := h
  have hl := RepC.len t x cs h1
  rw [sz_of_plain ht] at hl
  match cs, hl with
  | [c], _ => rw [mkV_plain ht]; exact h1
theorem RepC.toV {M : Nat → Nat → Prop} {w : World} {t : Ty} {x : t.den} {v : Value} (ht : t.isAgg = false) (h : RepC M w t x [v]) : RepV M w t x v := ⟨[v], h, (mkV_plain ht v).symm⟩
theorem RepV.cells {M : Nat → Nat → Prop} {w : World} {t : Ty} {x : t.den} {v : Value} (h : RepV M w t x v) : RepC M w t x v.cells.toList := by
  obtain ⟨cs, h1, rfl⟩ := h
  cases ht : t.isAgg
  · have hl := RepC.len t x cs h1
    rw [sz_of_plain ht] at hl
    match cs, hl with
    | [c], _ =>
      rw [mkV_plain ht]
      have := RepC.one t x _ h1 c (by simp)
      cases c <;> first | exact h1 | simp [Value.oneCell'] at this
  · rw [mkV_agg ht]; exact h1

/-- What has a name: its block, the first cell that may change, and the value that leads to it. -/
structure GB where
  blk : Option Nat
  lo : Nat
  v : Value
abbrev Gh := Nat → Option GB
def boxV (b : Nat) : Value := .pointer (some ⟨b, 0, none⟩)
def RepD0 (M : Nat → Nat → Prop) (w : World) (g : Gh) : D → Value → Prop
  | .dead, _ => True
  | .skip, v => v = undef
  | .bl b, v => v = .bool b
  | .v t x, v => RepV M w t x v
  | .nilS, v => v = .slice none 0 0
  | .nilP, v => v = .pointer none
  | .row r, v => ∃ x A n c, g r = some x ∧ v = x.v ∧ v = .slice A n c
  | .elp r z i o, v => ∃ x b n c, g r = some x ∧ x.v = .slice (some ⟨b, 0, none⟩) n c ∧ 0 ≤ i ∧ i < n ∧ v = .pointer (some ⟨b, i.toNat * z + o, none⟩)
  | .tl r z i, v => ∃ x b n c, g r = some x ∧ x.v = .slice (some ⟨b, 0, none⟩) n c ∧ 0 ≤ i ∧ i ≤ n ∧ v = .slice (some ⟨b, (if c = i.toNat then 0 else i.toNat * z), none⟩) (n - i.toNat) (c - i.toNat)
  | .box r off, v => ∃ x b, g r = some x ∧ x.v = boxV b ∧ v = .pointer (some ⟨b, off, none⟩)
  | .at_ t x, v => ∃ ad cs, v = .pointer (some ad) ∧ RepC M w t x cs ∧ Pl M w ad cs
  | .mref r, v => ∃ x b, g r = some x ∧ x.v = .map (some b) ∧ v = .map (some b)
  | .fnc f l, v => ∃ cs : Array Value, v = .func (.func f) #[] cs ∧ All2 (fun r u => ∃ x b, g r = some x ∧ x.v = boxV b ∧ u = boxV b) l cs.toList
  | .tup _, _ => False
def RepD (M : Nat → Nat → Prop) (w : World) (g : Gh) : D → Value → Prop
  | .tup l, v => ∃ vs, v = .tuple vs ∧ All2 (RepD0 M w g) l vs.toList
  | d, v => RepD0 M w g d v
theorem RepD.of0 {M : Nat → Nat → Prop} {w : World} {g : Gh} {d : D} {v : Value} (hd : ∀ l, d ≠ .tup l) : RepD M w g d v ↔ RepD0 M w g d v := by
  cases d <;> first | exact Iff.rfl | exact absurd rfl (hd _)
theorem RepD0.toD {M : Nat → Nat → Prop} {w : World} {g : Gh} {d : D} {v : Value} (h : RepD0 M w g d v) : RepD M w g d v := by
  cases d <;> first | exact h | exact h.elim
/-- A step that does not say anything of names, said of slots. -/
theorem RepD.lift {M M' : Nat → Nat → Prop} {w w' : World} {g g' : Gh} {f : D → D} (hf : ∀ d v, RepD0 M w g d v → RepD0 M' w' g' (f d) v) (h1 : ∀ l, f (.tup l) = .tup l := by intro _; rfl) {d : D} {v : Value} (h : RepD M w g d v) : RepD M' w' g' (lift1 f d) v := by
  by_cases hd : ∃ l, d = .tup l
  · obtain ⟨l, rfl⟩ := hd
    obtain ⟨vs, e, ha⟩ := h
    exact ⟨vs, e, ha.mapL f hf⟩
  · have hd' : ∀ l, d ≠ .tup l := fun l e => hd ⟨l, e⟩
    have e : lift1 f d = f d := by cases d <;> first | rfl | exact absurd rfl (hd' _)
    rw [e]
    exact (hf _ _ ((RepD.of0 hd').1 h)).toD
theorem RepD0.step {M M' : Nat → Nat → Prop} {w w' : World} {g : Gh} (hs : Step M w M' w') : ∀ {d : D} {v : Value}, RepD0 M w g d v → RepD0 M' w' g d v
  | .dead, _, _ => True.intro
  | .skip, _, h => h
  | .bl _, _, h => h
  | .v _ _, _, h => RepV.step hs h
  | .nilS, _, h => h
  | .nilP, _, h => h
  | .box _ _, _, h => h
  | .at_ _ _, _, h => let ⟨ad, cs, a, b, c⟩ := h; ⟨ad, cs, a, RepC.step hs _ _ _ b, c.step hs⟩
  | .mref _, _, h => h
  | .row _, _, h => h
  | .elp _ _ _ _, _, h => h
  | .tl _ _ _, _, h => h
  | .fnc _ _, _, h => h
  | .tup _, _, h => h.elim
theorem RepD.step {M M' : Nat → Nat → Prop} {w w' : World} {g : Gh} (hs : Step M w M' w') {d : D} {v : Value} (h : RepD M w g d v) : RepD M' w' g d v := by
  by_cases hd : ∃ l, d = .tup l
  · obtain ⟨l, rfl⟩ := hd
    obtain ⟨vs, e, ha⟩ := h
    exact ⟨vs, e, ha.mono fun _ _ => RepD0.step hs⟩
  · have hd' : ∀ l, d ≠ .tup l := fun l e => hd ⟨l, e⟩
    exact ((RepD.of0 hd').1 h).step hs |>.toD
theorem nob0_sound {M : Nat → Nat → Prop} {w : World} {g : Gh} {d : D} {v : Value} (h : RepD0 M w g d v) : RepD0 M w g (nob d) v := by
  cases d with
  | bl b =>
    have h' : v = .bool b := h
    subst h'
    exact RepC.toV (t := .bool) rfl rfl
  | _ => exact h
theorem nob_sound {M : Nat → Nat → Prop} {w : World} {g : Gh} {d : D} {v : Value} (h : RepD M w g d v) : RepD M w g (nob d) v := by
  cases d with
  | bl b =>
    have h' : v = .bool b := h
    subst h'
    exact RepC.toV (t := .bool) rfl rfl
  | _ => exact h
end Go.Proofs.YtbekhaioddmliaaDoor
