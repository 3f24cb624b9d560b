/- The trees, plainly: what the reference finds below a name. -/
import Derived.Test.YtjiddcchklaiiaaGreatDoorQLTrB
import Derived.Test.YtjiddcchklaiiaaGreatDoorQTsR
import Derived.Test.YtjiddcchklaiiaaGreatDoorQTsT
import Derived.Test.YtjiddcchklaiiaaGreatDoorQBmJ
import Derived.ProofKit
import Derived.OpenShut
import Derived.ShutString
import Derived.DataReads
import Derived.ChangeShapes
import Derived.WideShapes
import Derived.Test.YtjiddcchklaiiaaGreatDoorQFor2
import Derived.Test.YtjiddcchklaiiaaGreatDoorQAsc
namespace Go.Proofs.YtjiddcchklaiiaaGreatDoor
set_option linter.unusedVariables false
set_option linter.unusedSimpArgs false
open Go Go.RowKit
theorem lies_eq (N : Nat) (p nm : Str) (h : nm.length ≤ 1000000) : ref1_Lies N p nm = some ((nm ++ [47]).isPrefixOf p) := by
 unfold ref1_Lies strings_HasPrefix stringslite_HasPrefix
 rw [decide_eq_true (by simp; omega), br_true]
 by_cases hl : (p.length : Int) ≥ (((nm ++ [47]).length : Nat) : Int)
 · rw [decide_eq_true hl, br_true]
   unfold slc
   rw [if_pos ⟨Int.le_refl _, Int.natCast_nonneg _, hl⟩, bnd_some, bnd_some, bnd_some, Int.toNat_natCast]
   congr 1
   rw [Bool.eq_iff_iff, beq_iff_eq, List.isPrefixOf_iff_prefix, List.prefix_iff_eq_take]
   simp only [Int.toNat_zero, List.drop_zero]
   exact eq_comm
 · rw [decide_eq_false hl, br_false, bnd_some, bnd_some]
   congr 1
   symm
   rw [Bool.eq_false_iff]
   intro h'
   have := (List.isPrefixOf_iff_prefix.1 h').length_le
   omega
theorem geti_app {α : Type} (P : List α) (x : α) (R : List α) : geti (P ++ x :: R) (P.length : Int) = some x := geti_at P x R _ rfl
theorem below_loop (N : Nat) (nm : Str) (k : List FileD → Option (Bool × List FileD)) (hnm : nm.length ≤ 1000000) : ∀ (R P w : List FileD) (fuel : Nat), P.length + R.length ≤ 1000000 → w.length ≤ P.length → R.length < fuel →
   z55L0 N (P ++ R) nm k fuel (P.length : Int) w = match R.find? fun x => x.1 == nm with
     | some x => some (false, [x])
     | none => k (w ++ within nm R)
 | [], P, w, fuel + 1, h1, h2, h3 => by
   rw [z55L0]
   unfold z55L0T
   rw [decide_eq_false (by simp), br_false]
   simp [within]
 | x :: R, P, w, fuel + 1, h1, h2, h3 => by
   simp only [List.length_cons] at h1 h3
   rw [z55L0]
   unfold z55L0T
   rw [decide_eq_true (by simp; omega), br_true, geti_app, bnd_some]
   by_cases he : (x.1 == nm) = true
   · rw [he, br_true, bnd_some, List.find?_cons_of_pos (by exact he)]
   · have he' : (x.1 == nm) = false := by simpa using he
     have ih := fun w' (hw' : w'.length ≤ P.length + 1) => below_loop N nm k hnm R (P ++ [x]) w' fuel (by simp; omega) (by simp; omega) (by omega)
     have e : P ++ [x] ++ R = P ++ x :: R := by simp
     have el : (((P ++ [x]).length : Nat) : Int) = (P.length : Int) + 1 := by simp
     rw [e, el] at ih
     rw [he', br_false, bnd_some, lies_eq N x.1 nm hnm, bnd_some, List.find?_cons_of_neg (by exact he), w64 ((P.length : Int) + 1) (by omega) (by omega)]
     by_cases hp : (nm ++ [47]).isPrefixOf x.1 = true
     · rw [hp, br_true, bnd_some, w64 ((nm.length : Int) + 1) (by omega) (by omega)]
       have hle := (List.isPrefixOf_iff_prefix.1 hp).length_le
       simp only [List.length_append, List.length_singleton] at hle
       have hs : slc x.1 ((nm.length : Int) + 1) (x.1.length : Int) = some (x.1.drop (nm.length + 1)) := by
         unfold slc
         rw [if_pos (by omega)]
         have e2 : ((nm.length : Int) + 1).toNat = nm.length + 1 := by omega
         rw [Int.toNat_natCast, e2, List.take_length]
       rw [hs, bnd_some, decide_eq_true, br_true, ih _ (by simp; omega)]
       · have hw : within nm (x :: R) = (x.1.drop (nm.length + 1), x.2) :: within nm R := by
           unfold within
           rw [List.filterMap_cons, if_pos hp]
         rw [hw]
         simp
       · have e3 : Ty.sz (.pr .str (.pr .bool (.sl .u8))) = 3 := rfl
         rw [e3]
         simp
         omega
     · have hp' : (nm ++ [47]).isPrefixOf x.1 = false := Bool.eq_false_iff.2 hp
       rw [hp', br_false, ih w (by omega)]
       have hw : within nm (x :: R) = within nm R := by
         unfold within
         rw [List.filterMap_cons, if_neg hp]
       rw [hw]
theorem below_ok {N : Nat} (hN : 1000000 < N) {l : List FileD} (hg : GoodL l) (h1 : l.length ≤ 1000000) {nd : NodeD} (h : NodeOk l nd) (hl : nd.1.length ≤ 1000000) :
   (∃ x ∈ l, nd = (nd.1, some x, []) ∧ x.1 = nd.1 ∧ ref1_below N l nd.1 = some (false, [x])) ∨ (nd = (nd.1, none, within nd.1 l) ∧ within nd.1 l ≠ [] ∧ ref1_below N l nd.1 = some (true, within nd.1 l)) := by
 have hb := below_loop N nd.1 (fun w => some (true, w)) hl l [] [] N (by simpa using h1) (Nat.le_refl _) (by omega)
 simp only [List.nil_append, List.length_nil, Int.natCast_zero] at hb
 have hb' : ref1_below N l nd.1 = match l.find? fun x => x.1 == nd.1 with | some x => some (false, [x]) | none => some (true, within nd.1 l) := by
   unfold ref1_below
   exact hb
 rcases h.2 with ⟨x, hx, e1, e2⟩ | ⟨hw, e2⟩
 · refine .inl ⟨x, hx, e2, e1, ?_⟩
   have hf : (l.find? fun x => x.1 == nd.1) = some x := by
     cases hf : l.find? fun x => x.1 == nd.1 with
     | none =>
       have := List.find?_eq_none.1 hf x hx
       simp [e1] at this
     | some y =>
       have hy := List.mem_of_find?_eq_some hf
       have hye : y.1 = nd.1 := by simpa using List.find?_some hf
       obtain ⟨i, hi, rfl⟩ := List.getElem_of_mem hx
       obtain ⟨j, hj, rfl⟩ := List.getElem_of_mem hy
       have hij : i = j := by
         rcases Nat.lt_trichotomy i j with h' | h' | h'
         · have := List.pairwise_iff_getElem.1 hg.asc i j hi hj h'
           rw [e1, hye] at this
           exact absurd this (str_lt_irrefl _)
         · exact h'
         · have := List.pairwise_iff_getElem.1 hg.asc j i hj hi h'
           rw [e1, hye] at this
           exact absurd this (str_lt_irrefl _)
       subst hij
       rfl
   rw [hb', hf]
 · refine .inr ⟨e2, hw, ?_⟩
   have hf : (l.find? fun x => x.1 == nd.1) = none := by
     rw [List.find?_eq_none]
     intro y hy hye
     obtain ⟨z, hz, hpz⟩ := within_mem hw
     have hye' : y.1 = nd.1 := by simpa using hye
     rw [← hye'] at hpz
     exact hg.apart y hy z hz hpz
   rw [hb', hf]
end Go.Proofs.YtjiddcchklaiiaaGreatDoor


/- Splitting, cutting and joining at one byte. No program in sight. -/
namespace Go.Proofs.YtjiddcchklaiiaaGreatDoor
set_option linter.unusedVariables false
set_option linter.unusedSimpArgs false
open Go Go.RowKit
def splitC (c : UInt8) : Str → List Str
 | [] => [[]]
 | b :: s => if b = c then [] :: splitC c s else match splitC c s with
   | x :: xs => (b :: x) :: xs
   | [] => [[b]]
theorem splitC_ne (c : UInt8) (s : Str) : splitC c s ≠ [] := by
 cases s with
 | nil => simp [splitC]
 | cons b s => unfold splitC; split; simp; split <;> simp
theorem indexByte_cons (b c : UInt8) (s : Str) : Lib.indexByte (b :: s) c = if b = c then 0 else if Lib.indexByte s c = -1 then -1 else Lib.indexByte s c + 1 := by
 have h := Lib.indexByte_ge s c
 rw [Lib.indexByte]
 by_cases hb : b = c
 · simp [hb]
 · simp only [beq_iff_eq, hb, if_false]
theorem splitK_one (c : UInt8) : ∀ (s : Str), Lib.splitK [c] 0 (Lib.count s [c]) s = splitC c s
 | [] => by simp [Lib.count_one, Lib.splitK, splitC]
 | b :: s => by
   have ih := splitK_one c s
   by_cases hb : b = c
   · subst hb
     rw [Lib.count_cons_eq, Nat.add_comm, Lib.splitK, Lib.index_one, indexByte_cons]
     simp only [if_true]
     show (_ :: Lib.splitK [b] 0 (Lib.count s [b]) s) = _
     rw [ih]
     simp [splitC]
   · rw [Lib.count_cons_ne _ _ _ hb]
     unfold splitC
     rw [if_neg hb, ← ih]
     cases hk : Lib.count s [c] with
     | zero => simp [Lib.splitK]
     | succ k =>
       rw [Lib.splitK, Lib.splitK, Lib.index_one, Lib.index_one, indexByte_cons, if_neg hb]
       have h0 := Lib.indexByte_ge s c
       by_cases h1 : Lib.indexByte s c = -1
       · simp [h1]
       · have h2 : ∃ n : Nat, Lib.indexByte s c = n := ⟨(Lib.indexByte s c).toNat, by omega⟩
         obtain ⟨n, hn⟩ := h2
         have e : ((n : Int) + 1).toNat = n + 1 := by omega
         have e1 : ¬ ((n : Int) = -1) := by omega
         have e2 : ¬ ((n : Int) + 1 = -1) := by omega
         simp [hn, e, e1, e2, Nat.add_right_comm]
theorem splitS_one (s : Str) (c : UInt8) : splitS s [c] = splitC c s := by
 unfold splitS
 have := Lib.splitB_data ⟨[c].toArray⟩ 0 (Lib.countB ⟨s.toArray⟩ ⟨[c].toArray⟩) ⟨s.toArray⟩
 rw [this]
 exact splitK_one c s
theorem splitC_len (c : UInt8) : ∀ s : Str, (splitC c s).length = s.count c + 1
 | [] => rfl
 | b :: s => by
   have ih := splitC_len c s
   unfold splitC
   by_cases hb : b = c
   · rw [if_pos hb]; simp [hb, ih]
   · rw [if_neg hb, List.count_cons_of_ne hb, ← ih]
     have := splitC_ne c s
     cases h : splitC c s with
     | nil => exact absurd h this
     | cons => rfl
theorem strings_Split_one (s : Str) (c : UInt8) (h : s.length < 4294967281) : strings_Split s [c] = some (splitC c s) := by
 have hc : s.count c ≤ s.length := List.count_le_length
 unfold strings_Split
 rw [splitS_one, splitC_len]
 refine if_pos ⟨h, by simp, ?_, by omega⟩
 show _ = Lib.count s [c] + 1
 rw [Lib.count_one]
theorem splitC_no {c : UInt8} : ∀ {s : Str}, c ∉ s → splitC c s = [s]
 | [], _ => rfl
 | b :: s, h => by
   rw [splitC, if_neg (fun e => h (by simp [e])), splitC_no (fun e => h (by simp [e]))]
theorem splitC_app {c : UInt8} : ∀ {s : Str}, c ∉ s → ∀ t : Str, splitC c (s ++ c :: t) = s :: splitC c t
 | [], _, t => by simp [splitC]
 | b :: s, h, t => by
   rw [List.cons_append, splitC, if_neg (fun e => h (by simp [e])), splitC_app (fun e => h (by simp [e]))]
theorem splitC_mem (c : UInt8) (s : Str) : ∀ x ∈ splitC c s, c ∉ x ∧ x.length ≤ s.length := by
 induction s with
 | nil => intro x hx; simp [splitC] at hx; subst hx; simp
 | cons b s ih =>
   intro x hx
   unfold splitC at hx
   by_cases hb : b = c
   · rw [if_pos hb] at hx
     rcases List.mem_cons.1 hx with rfl | hx
     · simp
     · have := ih x hx; exact ⟨this.1, by simp; omega⟩
   · rw [if_neg hb] at hx
     cases h : splitC c s with
     | nil => exact absurd h (splitC_ne c s)
     | cons y ys =>
       rw [h] at hx ih
       rcases List.mem_cons.1 hx with rfl | hx
       · have := ih y (by simp)
         refine ⟨fun hm => ?_, by simp; omega⟩
         rcases List.mem_cons.1 hm with e | hm
         · exact hb e.symm
         · exact this.1 hm
       · have := ih x (List.mem_cons_of_mem _ hx); exact ⟨this.1, by simp; omega⟩
end Go.Proofs.YtjiddcchklaiiaaGreatDoor


/- The arguments of a law, as the statement's reading hands them over, as data of the machine: any type. -/
namespace Go.Proofs.YtjiddcchklaiiaaGreatDoor
set_option linter.unusedVariables false
set_option linter.unusedSimpArgs false
open Go Go.RowKit Go.ChangeShapes Go.WideShapes
def FitG (RR : (i : RC) → i.den → Prop) : (t : Ty) → t.den → Prop
 | .u8, _ => True
 | .int k, x => (Lit.int k x).wf = true
 | .bool, _ => True
 | .str, x => x.length ≤ maxLen
 | .sl t, xs => xs.length ≤ maxLen ∧ ∀ x ∈ xs, FitG RR t x
 | .pr a b, x => FitG RR a x.1 ∧ FitG RR b x.2
 | .un, _ => True
 | .mp _, _ => True
 | .ptr _, _ => True
 | .np _, _ => True
 | .nl, _ => True
 | .clo _ _, _ => True
 | .rc i, x => RR i x
def FitR (i : RC) (x : i.den) : Prop := ∀ RR : (i : RC) → i.den → Prop, (∀ j y, FitG RR j.body (j.un y) → RR j y) → RR i x
def Fit : (t : Ty) → t.den → Prop := FitG FitR
theorem FitG.mono {RR RR' : (i : RC) → i.den → Prop} (hR : ∀ i x, RR i x → RR' i x) : ∀ (t : Ty) (x : t.den), FitG RR t x → FitG RR' t x
 | .u8, _, h => h
 | .int _, _, h => h
 | .bool, _, h => h
 | .str, _, h => h
 | .sl t, _, h => ⟨h.1, fun x hx => FitG.mono hR t x (h.2 x hx)⟩
 | .pr a b, _, h => ⟨FitG.mono hR a _ h.1, FitG.mono hR b _ h.2⟩
 | .un, _, h => h
 | .mp _, _, h => h
 | .ptr _, _, h => h
 | .np _, _, h => h
 | .nl, _, h => h
 | .clo _ _, _, h => h
 | .rc i, x, h => hR i x h
theorem FitR.intro {i : RC} {x : i.den} (h : Fit i.body (i.un x)) : FitR i x :=
 fun RR hc => hc i x (FitG.mono (fun j y hy => hy RR hc) _ _ h)
theorem FitR.elim {i : RC} {x : i.den} (h : FitR i x) : Fit i.body (i.un x) :=
 h (fun j y => Fit j.body (j.un y)) fun _ _ hy => FitG.mono (fun _ _ h => FitR.intro h) _ _ hy
mutual
inductive Deep (P : Program) (R : RC → Option TypeId) : Ty → TypeId → Prop where
 | u8 {T : TypeId} : P.underlying T = some (.int .u8) → Deep P R .u8 T
 | int {T : TypeId} {k : IntKind} : P.underlying T = some (.int k) → Deep P R (.int k) T
 | bool {T : TypeId} : P.underlying T = some .bool → Deep P R .bool T
 | str {T : TypeId} : P.underlying T = some .string → Deep P R .str T
 | sl {T e : TypeId} {t : Ty} : P.underlying T = some (.slice e) → P.cellsOf e = t.sz → Deep P R t e → Deep P R (.sl t) T
 | st {T : TypeId} {t : Ty} {fs : Array Field} : P.underlying T = some (.struct fs) → P.cellsOf T = t.sz → t.isAgg = true → DeepF P R t fs.toList 0 → Deep P R t T
 | rc {T : TypeId} {i : RC} : R i = some T → Deep P R (.rc i) T
inductive DeepF (P : Program) (R : RC → Option TypeId) : Ty → List Field → Nat → Prop where
 | nil {o : Nat} : DeepF P R .un [] o
 | one {t : Ty} {f : Field} {o : Nat} : f.offset = o → P.cellsOf f.type = t.sz → Deep P R t f.type → DeepF P R t [f] o
 | single {t : Ty} {f : Field} {o : Nat} : f.offset = o → P.cellsOf f.type = t.sz → Deep P R t f.type → DeepF P R (.pr t .un) [f] o
 | cons {a b : Ty} {f : Field} {fs : List Field} {o : Nat} : f.offset = o → P.cellsOf f.type = a.sz → Deep P R a f.type → DeepF P R b fs (o + a.sz) → DeepF P R (.pr a b) (f :: fs) o
end
def RcOk (P : Program) (R : RC → Option TypeId) : Prop := ∀ i T, R i = some T → ∃ fs, P.underlying T = some (.struct fs) ∧ P.cellsOf T = i.sz ∧ DeepF P R i.body fs.toList 0
abbrev M00 : Nat → Nat → Prop := fun _ _ => False
section
variable {H : Type} {enc : TypeId × Value → H} {P : Program} {w : World} {spare : Nat → Bool} {held : Bool} {R : RC → Option TypeId}
theorem choose_list {α : Type} {p : Nat → α → Prop} : ∀ n, (∀ i, i < n → ∃ x, p i x) → ∃ l : List α, l.length = n ∧ ∀ i (h : i < l.length), p i l[i]
 | 0, _ => ⟨[], rfl, fun i h => absurd h (Nat.not_lt_zero _)⟩
 | n + 1, h => by
   obtain ⟨l, hl, hp⟩ := choose_list n fun i hi => h i (Nat.lt_succ_of_lt hi)
   obtain ⟨x, hx⟩ := h n (Nat.lt_succ_self _)
   refine ⟨l ++ [x], by simp [hl], fun i hi => ?_⟩
   rcases Nat.lt_or_ge i l.length with h' | h'
   · rw [List.getElem_append_left h']; exact hp i h'
   · have : i = l.length := by simp at hi; omega
     subst this
     simp [hl, hx]
theorem pl_of_cells {a : Addr} {n : Nat} {cs : List Value} (h : w.cells? 0 a n = some cs) : Pl M00 w a cs := by
 intro j u hu
 refine ⟨?_, id⟩
 unfold World.cells? at h
 rw [if_pos (Nat.zero_le _)] at h
 have hl := mapM_some_length h
 have hj : j < n := by
   rcases Nat.lt_or_ge j cs.length with h' | h'
   · rw [hl, List.length_range] at h'; exact h'
   · rw [List.getElem?_eq_none h'] at hu; cases hu
 have := mapM_some_get h j j (by rw [List.getElem?_range hj])
 rw [this]; exact hu
theorem fields_rep {fuel : Nat} {cs : List Value}
   (ih : ∀ (t : Ty) (T : TypeId) (cs : List Value) (x : DataW H × List MemPlace), Deep P R t T → DataW.trod enc P w 0 spare held fuel T cs = some x → ∃ d : t.den, RepC M00 w t d cs ∧ Fit t d) :
   ∀ (fs : List Field) (t : Ty) (o : Nat) (xs : List (DataW H × List MemPlace)), DeepF P R t fs o →
     (fs.mapM fun f => DataW.trod enc P w 0 spare held fuel f.type ((cs.drop f.offset).take (P.cellsOf f.type))) = some xs → ∃ d : t.den, RepC M00 w t d ((cs.drop o).take t.sz) ∧ Fit t d := by
 intro fs
 induction fs with
 | nil =>
   intro t o xs hd _
   cases hd
   exact ⟨(), List.take_zero, trivial⟩
 | cons f fs hfs =>
   intro t o xs hd hm
   have hhead : ∃ y, DataW.trod enc P w 0 spare held fuel f.type ((cs.drop f.offset).take (P.cellsOf f.type)) = some y := by
     have := mapM_some_get hm 0 f rfl
     cases hx : xs[0]? with
     | none =>
       have hl := mapM_some_length hm
       rw [List.getElem?_eq_none_iff] at hx
       simp at hl; omega
     | some y => exact ⟨y, this.trans hx⟩
   have htail : ∃ ys, (fs.mapM fun f => DataW.trod enc P w 0 spare held fuel f.type ((cs.drop f.offset).take (P.cellsOf f.type))) = some ys := by
     rw [List.mapM_cons] at hm
     obtain ⟨y, hy⟩ := hhead
     rw [hy] at hm
     cases hys : (fs.mapM fun f => DataW.trod enc P w 0 spare held fuel f.type ((cs.drop f.offset).take (P.cellsOf f.type))) with
     | none => rw [hys] at hm; cases hm
     | some ys => exact ⟨ys, rfl⟩
   obtain ⟨y, hy⟩ := hhead
   obtain ⟨ys, hys⟩ := htail
   cases hd with
   | one ho hc h1 =>
     rw [ho, hc] at hy
     exact ih _ _ _ _ h1 hy
   | single ho hc h1 =>
     rw [ho, hc] at hy
     obtain ⟨d, hd1, hd2⟩ := ih _ _ _ _ h1 hy
     exact ⟨(d, ()), ⟨_, [], (List.append_nil _).symm, hd1, rfl⟩, hd2, trivial⟩
   | @cons a b _ _ _ ho hc h1 h2 =>
     rw [ho, hc] at hy
     obtain ⟨d, hd1, hd2⟩ := ih _ _ _ _ h1 hy
     obtain ⟨e, he1, he2⟩ := hfs _ _ _ h2 hys
     refine ⟨(d, e), ⟨_, _, ?_, hd1, he1⟩, hd2, he2⟩
     show (cs.drop o).take (a.sz + b.sz) = _
     rw [List.take_add, List.drop_drop]
theorem trod_rep (hR : RcOk P R) : ∀ (fuel : Nat) (t : Ty) (T : TypeId) (cs : List Value) (x : DataW H × List MemPlace), Deep P R t T → DataW.trod enc P w 0 spare held fuel T cs = some x →
   ∃ d : t.den, RepC M00 w t d cs ∧ Fit t d := by
 intro fuel
 induction fuel with
 | zero => intro t T cs x _ h; cases h
 | succ fuel ih =>
   intro t T cs x hd h
   have hstruct : ∀ (t : Ty) (fs : Array Field), P.underlying T = some (.struct fs) → P.cellsOf T = t.sz → DeepF P R t fs.toList 0 → ∃ d : t.den, RepC M00 w t d cs ∧ Fit t d := fun t fs hu hc hf => by
     unfold DataW.trod at h
     simp only [hu] at h
     split at h
     · rename_i hl
       cases hm : (fs.toList.mapM fun f => DataW.trod enc P w 0 spare held fuel f.type ((cs.drop f.offset).take (P.cellsOf f.type))) with
       | none => rw [hm] at h; cases h
       | some xs =>
         obtain ⟨d, h1, h2⟩ := fields_rep ih fs.toList t 0 xs hf hm
         rw [List.drop_zero, List.take_of_length_le (by omega)] at h1
         exact ⟨d, h1, h2⟩
     · cases h
   cases hd with
   | u8 hu =>
     have hx : ∃ n, cs = [.int .u8 n] ∧ (Lit.int .u8 n).wf = true := by
       unfold DataW.trod at h
       split at h <;> simp_all
     obtain ⟨n, rfl, hn⟩ := hx
     refine ⟨UInt8.ofNat n.toNat, ?_, trivial⟩
     show [Value.int .u8 n] = [Value.int .u8 (UInt8.ofNat n.toNat).toNat]
     simp [Lit.wf, IntKind.min, IntKind.max, IntKind.signed, IntKind.bits] at hn
     have : ((UInt8.ofNat n.toNat).toNat : Int) = n := by simp; omega
     rw [this]
   | @int _ k hu =>
     have hx : ∃ n, cs = [.int k n] ∧ (Lit.int k n).wf = true := by
       unfold DataW.trod at h
       split at h <;> simp_all
     obtain ⟨n, rfl, hn⟩ := hx
     exact ⟨n, rfl, hn⟩
   | bool hu =>
     have hx : ∃ b, cs = [.bool b] := by
       unfold DataW.trod at h
       split at h <;> simp_all
     obtain ⟨b, rfl⟩ := hx
     exact ⟨b, rfl, trivial⟩
   | str hu =>
     have hx : ∃ s : ByteArray, cs = [.string s] ∧ s.size ≤ maxLen := by
       unfold DataW.trod at h
       split at h <;> simp_all
     obtain ⟨s, rfl, hn⟩ := hx
     refine ⟨s.data.toList, ?_, ?_⟩
     · show [Value.string s] = [Value.string ⟨s.data.toList.toArray⟩]
       simp
     · show s.data.toList.length ≤ maxLen
       simpa using hn
   | @sl _ e t hu hc he =>
     have hx : cs = [.slice none 0 0] ∨ ∃ a len cap, cs = [.slice (some a) len cap] ∧ len ≤ cap ∧ cap ≤ maxLen ∧
         ∀ i, i < len → ∃ y, (w.cells? 0 (a.add (i * P.cellsOf e)) (P.cellsOf e)).bind (DataW.trod enc P w 0 spare held fuel e) = some y := by
       unfold DataW.trod at h
       split at h
       all_goals try (simp_all; done)
       · rename_i hu2
         rw [hu] at hu2
         cases hu2
         simp only at h
         split at h
         · rename_i hb
           right
           refine ⟨_, _, _, rfl, hb.2.1, hb.2.2, fun i hi => ?_⟩
           cases hm : ((List.range _).mapM fun i => (w.cells? 0 (Addr.add _ (i * P.cellsOf e)) (P.cellsOf e)).bind (DataW.trod enc P w 0 spare held fuel e)) with
           | none => rw [hm] at h; cases h
           | some ys =>
             have h1 := mapM_some_get hm i i (by rw [List.getElem?_range hi])
             have hl := mapM_some_length hm
             rw [List.length_range] at hl
             exact ⟨ys[i]'(by omega), h1.trans (List.getElem?_eq_getElem (by omega))⟩
         · cases h
     rcases hx with rfl | ⟨a, len, cap, rfl, h1, h2, h3⟩
     · exact ⟨[], ⟨none, 0, rfl, Nat.le_refl _, Nat.zero_le _, fun i h => absurd h (Nat.not_lt_zero _)⟩, Nat.zero_le _, fun x h => by cases h⟩
     · have hall : ∀ i, i < len → ∃ d : t.den, (∃ es, RepC M00 w t d es ∧ Pl M00 w (a.add (i * t.sz)) es) ∧ Fit t d := fun i hi => by
         obtain ⟨y, hy⟩ := h3 i hi
         rw [hc] at hy
         cases hcs : w.cells? 0 (a.add (i * t.sz)) t.sz with
         | none => rw [hcs] at hy; cases hy
         | some es =>
           rw [hcs] at hy
           obtain ⟨d, hd1, hd2⟩ := ih _ _ _ _ he hy
           exact ⟨d, ⟨es, hd1, pl_of_cells hcs⟩, hd2⟩
       obtain ⟨l, hl, hp⟩ := choose_list len hall
       refine ⟨l, ⟨some a, cap, ?_, by omega, h2, fun i hi => ?_⟩, ?_, fun x hx => ?_⟩
       · rw [hl]
       · obtain ⟨⟨es, e1, e2⟩, _⟩ := hp i hi
         exact ⟨a, es, rfl, e1, e2⟩
       · show l.length ≤ maxLen; omega
       · obtain ⟨i, hi, rfl⟩ := List.getElem_of_mem hx
         exact (hp i hi).2
   | st hu hc ha hf => exact hstruct t _ hu hc hf
   | rc hr =>
     obtain ⟨fs, hu, hc, hf⟩ := hR _ _ hr
     rename_i i
     obtain ⟨d, h1, h2⟩ := hstruct i.body fs hu (by rw [hc, RC.sz_body]) hf
     refine ⟨i.mk d, RepC.rc.2 (by rw [RC.un_mk]; exact h1), FitR.intro (by rw [RC.un_mk]; exact h2)⟩
theorem arg_open (hR : RcOk P R) {r : Reach} {base : Nat} {t : Ty} {T : TypeId} {v : Value} {d : DataW H} {p : List MemPlace} (hd : Deep P R t T) (hv : Value.okWide P w r base T v) (h : DataW.Trod enc P w 0 spare held T v d p) :
   ∃ x : t.den, RepV M00 w t x v ∧ Fit t x := by
 obtain ⟨fuel, hf⟩ := h
 obtain ⟨x, h1, h2⟩ := trod_rep hR fuel t T _ _ hd hf
 refine ⟨x, ⟨_, h1, ?_⟩, h2⟩
 have hagg : ∀ fs, P.underlying T = some (.struct fs) → t.isAgg = true → v = mkV t v.cells.toList := fun fs hu ha => by
   obtain ⟨cs, rfl, _⟩ := okWide_struct hu hv
   rw [mkV_agg ha]
   simp [Value.cells]
 have hone : ∀ c : Value, v = c → c.cells = #[c] → t.isAgg = false → v = mkV t v.cells.toList := fun c e hc ha => by
   subst e
   rw [hc, mkV_plain ha]
 cases hd with
 | u8 hu => obtain ⟨n, rfl⟩ := okWide_int hu hv; exact hone _ rfl rfl rfl
 | int hu => obtain ⟨n, rfl⟩ := okWide_int hu hv; exact hone _ rfl rfl rfl
 | bool hu => obtain ⟨n, rfl⟩ := okWide_bool hu hv; exact hone _ rfl rfl rfl
 | str hu => obtain ⟨n, rfl⟩ := okWide_string hu hv; exact hone _ rfl rfl rfl
 | sl hu _ _ => obtain ⟨a, l, c, rfl⟩ := okWide_slice hu hv; exact hone _ rfl rfl rfl
 | st hu _ ha _ => exact hagg _ hu ha
 | rc hr => obtain ⟨fs, hu, _⟩ := hR _ _ hr; exact hagg _ hu rfl
end
theorem law_run {P : Program} {f : FuncId} {ps : List Sl} {F : SV ps → BV [] → Option Bool} {out : Bool → SV [.v .bool] × BV []} (hout : ∀ z, (out z).1 = (z, ())) (hs : Sound P GW B0G f ⟨ps, [], [.v .bool], [], Bool, out, F⟩)
   {W : World} {vs : List Value} {x : SV ps} (hg : GW W) (ha : All2 (RepD0 M00 W g0) (lays id ps x) vs) (hf : F x () = some true) : Calls P f vs.toArray W fun e W' => e = .returned (.bool true) ∧ Ext W W' := by
 refine (hs.2 M00 W g0 vs x () true hg (GW_size hg) { args := ha, res := fun r blk h => (by cases h), dom := fun r gx h => (by cases h), inj := fun _ _ _ _ _ h => (by cases h), low := fun _ _ _ h => (by cases h), chg := fun _ _ _ _ h => (by cases h), mlt := fun b o h => h.elim, row := fun _ _ _ h => (by cases h) } hf).mono fun e W' hp => ?_
 obtain ⟨vs', g', he, hE, _, hF, _⟩ := hp
 refine ⟨?_, hE.ext fun b hb => ?_⟩
 · have := hF.args
   rw [hout] at this
   match vs', this with
   | [v], ⟨h1, _⟩ =>
     have h2 := RepV.plain (t := .bool) rfl h1
     have h3 : [v] = [.bool true] := h2
     injection h3 with h3
     rw [he, h3]
     rfl
 · obtain ⟨r, x, h, _⟩ := hb
   cases h
end Go.Proofs.YtjiddcchklaiiaaGreatDoor


/- Patterns in the program and in its reference (law 6), in plain Lean. -/
namespace Go.Proofs.YtjiddcchklaiiaaGreatDoor
set_option linter.unusedVariables false
set_option linter.unusedSimpArgs false
open Go Go.RowKit
theorem parts_len {x : Str} (h : x.length < 1000000) : (splitC 47 x).length ≤ 1000000 := by
 rw [splitC_len]
 have := List.count_le_length (a := (47 : UInt8)) (l := x)
 omega
theorem parts_le {x : Str} (h : x.length < 1000000) : ∀ q ∈ splitC 47 x, q.length ≤ 1000000 := fun q hq => by
 have := (splitC_mem 47 x q hq).2
 omega
theorem inPart_fin (N : Nat) : ∀ n : Fin 256, blob_inPart 0 (UInt8.ofNat n.1) = ref1_partByte 0 (UInt8.ofNat n.1) := by decide +kernel
theorem inPart_eq (N : Nat) (c : UInt8) : blob_inPart N c = ref1_partByte N c := by
 have h := inPart_fin 0 ⟨c.toNat, c.toNat_lt⟩
 have e : UInt8.ofNat c.toNat = c := by simp
 simp only [e] at h
 exact h
theorem isPart_eq (N : Nat) (x : Str) : blob_isPart N x = ref1_isPart N x := by
 have gen : ∀ (k : Option Bool) (n : Nat) (i : Int), z48L0 N x (x.length : Int) k n i = ref1_isPart_L0 N x k n i := by
   intro k n
   induction n with
   | zero => intro i; rfl
   | succ n ih =>
     intro i
     show z48L0T N x _ k _ i = ref1_isPart_L0T N x k _ i
     unfold z48L0T ref1_isPart_L0T
     simp only [inPart_eq, ih]
 exact gen _ _ _
theorem isPath_eq (N : Nat) (x : Str) : blob_IsPath N x = ref1_IsPath N x := by
 have gen : ∀ (P : List Str) (k : Option Bool) (n : Nat) (i : Int), z45L0 N P (P.length : Int) k n i = ref1_IsPath_L0 N P k n i := by
   intro P k n
   induction n with
   | zero => intro i; rfl
   | succ n ih =>
     intro i
     show z45L0T N P _ k _ i = ref1_IsPath_L0T N P k _ i
     unfold z45L0T ref1_IsPath_L0T
     simp only [isPart_eq, ih]
 unfold blob_IsPath ref1_IsPath ref1_within
 simp only [gen]
 by_cases h1 : (x.length : Int) < 1
 · rw [br_pos h1, br_neg (by omega)]; simp
 · rw [br_neg h1]
   by_cases h2 : (x.length : Int) > 200
   · rw [br_pos h2, br_pos (by omega), decide_eq_false (by omega)]; simp
   · rw [br_neg h2, br_pos (by omega), decide_eq_true (by omega)]; simp
theorem scan_loop {α R : Type} {xs : List α} (ok : α → Bool) {k bad : Option R} {f : Nat → Int → Option R} (hstep : ∀ n i (hi : i < xs.length), f (n + 1) (i : Int) = if ok xs[i] = true then f n ((i + 1 : Nat) : Int) else bad)
   (hend : ∀ n, f (n + 1) (xs.length : Int) = k) : ∀ n, xs.length < n → f n 0 = if xs.all ok = true then k else bad := by
 have gen : ∀ (d n i : Nat), i + d = xs.length → d < n → f n (i : Int) = if (xs.drop i).all ok = true then k else bad := by
   intro d
   induction d with
   | zero =>
     intro n i h hn
     obtain ⟨n, rfl⟩ : ∃ j, n = j + 1 := ⟨n - 1, by omega⟩
     obtain rfl : i = xs.length := by omega
     rw [hend, List.drop_length]; rfl
   | succ d ih =>
     intro n i h hn
     obtain ⟨n, rfl⟩ : ∃ j, n = j + 1 := ⟨n - 1, by omega⟩
     have hi : i < xs.length := by omega
     rw [hstep n i hi, ih n (i + 1) (by omega) (by omega), List.drop_eq_getElem_cons hi, List.all_cons]
     cases ok xs[i] <;> simp
 intro n hn
 have := gen xs.length n 0 (by omega) hn
 simpa using this
def byteB (c : UInt8) : Bool := (ref1_partByte 0 c).getD false
theorem byte_fin : ∀ n : Fin 256, ref1_partByte 0 (UInt8.ofNat n.1) = some (byteB (UInt8.ofNat n.1)) := by decide +kernel
theorem byte_eq (N : Nat) (c : UInt8) : ref1_partByte N c = some (byteB c) := by
 have h := byte_fin ⟨c.toNat, c.toNat_lt⟩
 have e : UInt8.ofNat c.toNat = c := by simp
 simp only [e] at h
 exact h
theorem part_scan {N : Nat} {x : Str} (hx : x.length ≤ 1000000) (k : Option Bool) : ∀ n, x.length < n → ref1_isPart_L0 N x k n 0 = if x.all byteB = true then k else some false := by
 refine scan_loop byteB (fun n i hi => ?_) (fun n => ?_)
 · show ref1_isPart_L0T N x k _ (i : Int) = _
   have hw : IntKind.i64.wrap ((i : Int) + 1) = ((i + 1 : Nat) : Int) := by rw [wrap_id (by omega) (by omega)]; omega
   unfold ref1_isPart_L0T
   rw [br_pos (by omega : (i : Int) < (x.length : Int)), geti_lt x hi, bnd_some, byte_eq, bnd_some, hw]
   cases byteB x[i] <;> simp
 · show ref1_isPart_L0T N x k _ (x.length : Int) = _
   unfold ref1_isPart_L0T
   rw [br_neg (by omega)]
def partP (x : Str) : Bool := x.all byteB && !(x == []) && !(x == [46]) && !(x == [46, 46])
theorem isPart_val {N : Nat} (hN : big ≤ N) {x : Str} (hx : x.length ≤ 1000000) : ref1_isPart N x = some (partP x) := by
 have hb : (18446744073709551616 : Nat) ≤ N := hN
 unfold ref1_isPart partP
 rw [part_scan hx _ N (by omega)]
 cases x.all byteB <;> cases (x == ([] : Str)) <;> cases (x == ([46] : Str)) <;> cases (x == ([46, 46] : Str)) <;> simp
def pathB (x : Str) : Bool := decide (1 ≤ x.length) && (decide (x.length ≤ 200) && (splitC 47 x).all partP)
theorem isPath_val {N : Nat} (hN : big ≤ N) {x : Str} (h : x.length < 1000000) : ref1_IsPath N x = some (pathB x) := by
 have hb : (18446744073709551616 : Nat) ≤ N := hN
 unfold ref1_IsPath ref1_within pathB
 rw [strings_Split_one _ _ (by omega)]
 simp only [bnd_some]
 have hl := parts_len h
 have hP := parts_le h
 generalize splitC 47 x = P at hl hP ⊢
 have h1 : ref1_IsPath_L0 N P (some true) N 0 = if P.all partP = true then some true else some false := by
   refine scan_loop partP (fun n i hi => ?_) (fun n => ?_) N (by omega)
   · show ref1_IsPath_L0T N P _ _ (i : Int) = _
     have hw : IntKind.i64.wrap ((i : Int) + 1) = ((i + 1 : Nat) : Int) := by rw [wrap_id (by omega) (by omega)]; omega
     unfold ref1_IsPath_L0T
     rw [br_pos (by omega : (i : Int) < (P.length : Int)), geti_lt P hi, bnd_some, hw, isPart_val hN (hP P[i] (List.getElem_mem _)), bnd_some]
     cases partP P[i] <;> simp
   · show ref1_IsPath_L0T N P _ _ (P.length : Int) = _
     unfold ref1_IsPath_L0T
     rw [br_neg (by omega)]
 rw [h1]
 by_cases g0 : 1 ≤ x.length
 · rw [br_pos (by omega : (x.length : Int) ≥ 1), decide_eq_true g0]
   by_cases g1 : x.length ≤ 200
   · rw [decide_eq_true (by omega : (x.length : Int) ≤ 200), decide_eq_true g1]
     cases P.all partP <;> simp
   · rw [decide_eq_false (by omega : ¬ (x.length : Int) ≤ 200), decide_eq_false g1]; simp
 · rw [br_neg (by omega : ¬ (x.length : Int) ≥ 1), decide_eq_false g0]; simp
theorem isPath_long {N : Nat} {x : Str} (h : ¬ x.length < 1000000) : ref1_IsPath N x = some false := by
 unfold ref1_IsPath ref1_within
 rw [br_pos (by omega), decide_eq_false (by omega)]
 simp
theorem isPath_all {N : Nat} (hN : big ≤ N) (x : Str) : ref1_IsPath N x = some (pathB x) := by
 by_cases h : x.length < 1000000
 · exact isPath_val hN h
 · rw [isPath_long h]; unfold pathB; rw [decide_eq_false (by omega : ¬ x.length ≤ 200)]; simp
end Go.Proofs.YtjiddcchklaiiaaGreatDoor


/- What CheckFiles says in the program and in its reference, in plain Lean. -/
namespace Go.Proofs.YtjiddcchklaiiaaGreatDoor
set_option linter.unusedVariables false
set_option linter.unusedSimpArgs false
open Go Go.RowKit
abbrev FileT := Str × Bool × List UInt8
theorem exits_map {α β : Type} (g : α → β) (ex : Nat → Option α) : ∀ d i, exits (fun i => (ex i).map g) d i = (exits ex d i).map g
 | 0, _ => rfl
 | d + 1, i => by
   unfold exits
   cases ex i with
   | some z => rfl
   | none => exact exits_map g ex d (i + 1)
theorem exits_any {α : Type} (c : Nat → Bool) (z r : α) (m : Nat) : (exits (fun i => if c i = true then some z else none) m 0).getD r = if (List.range m).any c = true then z else r := by
 cases h : exits (fun i => if c i = true then some z else none) m 0 with
 | none =>
   have h' := exits_none.1 h
   have : (List.range m).any c = false := by
     rw [List.any_eq_false]
     intro j hj hc
     have := h' j (Nat.zero_le _) (by simpa using hj)
     rw [if_pos hc] at this; cases this
   rw [this]; rfl
 | some y =>
   obtain ⟨j, _, h2, h3, _⟩ := exits_some h
   by_cases hc : c j = true
   · rw [if_pos hc] at h3
     have : (List.range m).any c = true := List.any_eq_true.2 ⟨j, by simpa using h2, hc⟩
     rw [this, if_pos rfl]
     exact (Option.some.inj h3).symm
   · rw [if_neg hc] at h3; cases h3
def clashB (has : Str → Bool) (x : Str) : Bool := (List.range x.length).any fun i => x[i]? == some 47 && has (x.take i)
theorem clash_blob {N : Nat} (hN : big ≤ N) {m : List (Str × Bool)} {has : Str → Bool} (hm : ∀ p, (mget m p).getD (zero .bool) = has p) {x : Str} (hx : x.length ≤ 1000000) : blob_clashes N m x = some (clashB has x) := by
 have hb : (18446744073709551616 : Nat) ≤ N := hN
 unfold blob_clashes clashB
 refine (exit_loop (S := Int) x.length (fun i => (i : Int)) (fun i => if (x[i]? == some 47 && has (x.take i)) = true then some (some true) else none) (f := fun n s => z38L0 N m x (x.length : Int) (some false) n s) (r := some false) (fun n i hi => ?_) (fun n => ?_) N (by omega)).trans ?_
 · show z38L0T N m x _ _ (z38L0 N m x _ _ n) (i : Int) = _
   have hw : IntKind.i64.wrap ((i : Int) + 1) = ((i + 1 : Nat) : Int) := by rw [wrap_id (by omega) (by omega)]; omega
   unfold z38L0T
   rw [br_pos (by omega : (i : Int) < (x.length : Int)), geti_lt x hi, bnd_some, hw, slc_take x (Nat.le_of_lt hi), bnd_some, hm, List.getElem?_eq_getElem hi]
   show _ = Option.getD (if ((x[i] == 47) && has (x.take i)) = true then some (some true) else none) _
   cases x[i] == 47 <;> cases has (x.take i) <;> simp
 · show z38L0T N m x _ _ _ (x.length : Int) = _
   unfold z38L0T
   rw [br_neg (by omega)]
 · rw [exits_any]
   split
   · rename_i h; rw [h]
   · rename_i h; rw [Bool.not_eq_true] at h; rw [h]
theorem clash_ref {N : Nat} (hN : big ≤ N) {l : List FileT} {has : Str → Bool} (hm : ∀ p, ref1_there N l p = some (has p)) {x : Str} (hx : x.length ≤ 1000000) : ref1_inside N l x = some (clashB has x) := by
 have hb : (18446744073709551616 : Nat) ≤ N := hN
 unfold ref1_inside clashB
 refine (exit_loop (S := Int) x.length (fun i => (i : Int)) (fun i => if (x[i]? == some 47 && has (x.take i)) = true then some (some true) else none) (f := fun n s => ref1_inside_L0 N l x (some false) n s) (r := some false) (fun n i hi => ?_) (fun n => ?_) N (by omega)).trans ?_
 · show ref1_inside_L0T N l x _ (ref1_inside_L0 N l x _ n) (i : Int) = _
   have hw : IntKind.i64.wrap ((i : Int) + 1) = ((i + 1 : Nat) : Int) := by rw [wrap_id (by omega) (by omega)]; omega
   unfold ref1_inside_L0T
   rw [br_pos (by omega : (i : Int) < (x.length : Int)), geti_lt x hi, bnd_some, hw, slc_take x (Nat.le_of_lt hi), bnd_some, hm, bnd_some, List.getElem?_eq_getElem hi]
   show _ = Option.getD (if ((x[i] == 47) && has (x.take i)) = true then some (some true) else none) _
   cases x[i] == 47 <;> cases has (x.take i) <;> simp
 · show ref1_inside_L0T N l x _ _ (x.length : Int) = _
   unfold ref1_inside_L0T
   rw [br_neg (by omega)]
 · rw [exits_any]
   split
   · rename_i h; rw [h]
   · rename_i h; rw [Bool.not_eq_true] at h; rw [h]
def hasB {α : Type} (l : List (Str × α)) (p : Str) : Bool := l.any fun x => p == x.1
theorem hasB_iff {α : Type} {l : List (Str × α)} {p : Str} : hasB l p = true ↔ ∃ x ∈ l, x.1 = p := by
 unfold hasB
 rw [List.any_eq_true]
 exact ⟨fun ⟨x, h1, h2⟩ => ⟨x, h1, (eq_of_beq h2).symm⟩, fun ⟨x, h1, h2⟩ => ⟨x, h1, by rw [h2]; exact beq_self_eq_true _⟩⟩
theorem mid {a b : Nat} (ha : a ≤ 1000000) (hb : b ≤ 1000000) : IntKind.i64.wrap (Int.tdiv (IntKind.i64.wrap ((a : Int) + (b : Int))) 2) = (((a + b) / 2 : Nat) : Int) := by
 have h : ((a + b : Nat) : Int).tdiv 2 = (((a + b) / 2 : Nat) : Int) := (Int.ofNat_tdiv (a + b) 2).symm
 rw [wrap_id (n := (a : Int) + (b : Int)) (by omega) (by omega), show ((a : Int) + (b : Int)) = ((a + b : Nat) : Int) by omega, h]
 exact wrap_id (by omega) (by omega)
theorem there_eq {N : Nat} (hN : big ≤ N) {l : List FileT} (hl : l.length ≤ 1000000) (ha : Asc l) (p : Str) : ref1_there N l p = some (hasB l p) := by
 have hb : (18446744073709551616 : Nat) ≤ N := hN
 unfold ref1_there
 let lt : Nat → Bool := fun j => match l[j]? with | some x => decide (x.1 < p) | none => false
 have ltv : ∀ j (h : j < l.length), lt j = decide (l[j].1 < p) := fun j h => by show (match l[j]? with | some x => decide (x.1 < p) | none => false) = _; rw [List.getElem?_eq_getElem h]
 have ord : ∀ i j (hi : i < l.length) (hj : j < l.length), i < j → l[i].1 < l[j].1 := fun i j hi hj h => List.pairwise_iff_getElem.1 ha i j hi hj h
 obtain ⟨c, h1, h2, h3, h4⟩ := bsearch (f := fun n a b => ref1_there_L0 N l p (fun o0_5 => br (decide (o0_5 < (l.length : Int))) (bnd (geti l o0_5) fun t34 => some (t34.1 == p)) (some false)) n a b) l.length lt (fun i j hij hj h => by
     rw [ltv j hj, decide_eq_true_eq] at h
     rw [ltv i (by omega), decide_eq_true_eq]
     rcases Nat.eq_or_lt_of_le hij with rfl | hij
     · exact h
     · exact List.lt_trans (ord i j (by omega) hj hij) h) (k := fun o => br (decide ((o : Int) < (l.length : Int))) (bnd (geti l (o : Int)) fun t34 => some (t34.1 == p)) (some false)) (fun n lo hi h1 h2 => by
     show ref1_there_L0T N l p _ (ref1_there_L0 N l p _ n) (lo : Int) (hi : Int) = _
     have hm : (lo + hi) / 2 < l.length := by omega
     have hw : IntKind.i64.wrap ((((lo + hi) / 2 : Nat) : Int) + 1) = (((lo + hi) / 2 + 1 : Nat) : Int) := by rw [wrap_id (by omega) (by omega)]; omega
     unfold ref1_there_L0T
     rw [br_pos (by omega : (lo : Int) < (hi : Int)), show ((2 : Int) == 0) = false from rfl, br_false, mid (by omega) (by omega), geti_lt l hm, bnd_some, hw, less_eq, ltv _ hm, br_eq_ite]) (fun n lo h => by
     show ref1_there_L0T N l p _ _ (lo : Int) (lo : Int) = _
     unfold ref1_there_L0T
     rw [br_neg (by omega)])
 refine (h4 N (by omega)).trans ?_
 by_cases hc : c < l.length
 · rw [br_pos (by omega : (c : Int) < (l.length : Int)), geti_lt l hc, bnd_some]
   congr 1
   cases h : hasB l p with
   | true =>
     obtain ⟨x, hx, e⟩ := hasB_iff.1 h
     obtain ⟨j, hj, rfl⟩ := List.getElem_of_mem hx
     have hcj : c ≤ j := by
       apply Classical.byContradiction
       intro hn
       have := h2 j (by omega)
       rw [ltv j hj, decide_eq_true_eq, e] at this
       exact List.lt_irrefl _ this
     have : j = c := by
       rcases Nat.eq_or_lt_of_le hcj with h | h
       · exact h.symm
       · have h5 := ord c j hc hj h
         have h6 := h3 c (Nat.le_refl _) hc
         rw [ltv c hc, decide_eq_false_iff_not, ← e] at h6
         exact absurd h5 h6
     subst this
     rw [e]; exact beq_self_eq_true _
   | false =>
     cases h5 : l[c].1 == p with
     | false => rfl
     | true =>
       rw [hasB_iff.2 ⟨l[c], List.getElem_mem _, eq_of_beq h5⟩] at h; cases h
 · rw [br_neg (by omega)]
   congr 1
   cases h : hasB l p with
   | false => rfl
   | true =>
     obtain ⟨x, hx, e⟩ := hasB_iff.1 h
     obtain ⟨j, hj, rfl⟩ := List.getElem_of_mem hx
     have := h2 j (by omega)
     rw [ltv j hj, decide_eq_true_eq, e] at this
     exact absurd this (List.lt_irrefl _)
def scanX (l : List FileT) (i : Nat) : Option Int := match l[i]? with
 | some x => if pathB x.1 = true then (if x.2.2.length ≤ 100000 then (if i = 0 then none else match l[i - 1]? with
   | some y => if y.1 < x.1 then none else some 8
   | none => none) else some 2) else some 3
 | none => none
def totF (l : List FileT) : Nat → Int
 | 0 => 0
 | i + 1 => IntKind.i64.wrap (totF l i + match l[i]? with | some x => (x.2.2.length : Int) | none => 0)
theorem totF_succ {l : List FileT} {i : Nat} (h : i < l.length) : totF l (i + 1) = IntKind.i64.wrap (totF l i + (l[i].2.2.length : Int)) := by
 show IntKind.i64.wrap (totF l i + match l[i]? with | some x => (x.2.2.length : Int) | none => 0) = _
 rw [List.getElem?_eq_getElem h]
def filesS (l : List FileT) : Int := if l.length ≤ 1000 then ((exits (scanX l) l.length 0).getD (if l.all (fun x => !clashB (hasB l) x.1) = true then (if totF l l.length > 2000000 then 2 else 0) else 12)) else 2
structure OkF (l : List FileT) : Prop where
 path : ∀ x ∈ l, pathB x.1 = true
 few : ∀ x ∈ l, x.2.2.length ≤ 100000
 asc : Asc l
theorem pathB_len {x : Str} (h : pathB x = true) : 1 ≤ x.length ∧ x.length ≤ 200 := by
 unfold pathB at h
 simp only [Bool.and_eq_true, decide_eq_true_eq] at h
 exact ⟨h.1, h.2.1⟩
theorem scan_ok (l : List FileT) : exits (scanX l) l.length 0 = none ↔ OkF l := by
 rw [exits_none]
 have key : ∀ i (hi : i < l.length), scanX l i = none ↔ pathB l[i].1 = true ∧ l[i].2.2.length ≤ 100000 ∧ ∀ y, i ≠ 0 → l[i - 1]? = some y → y.1 < l[i].1 := by
   intro i hi
   unfold scanX
   rw [List.getElem?_eq_getElem hi]
   show (if pathB l[i].1 = true then _ else _) = none ↔ _
   by_cases h1 : pathB l[i].1 = true
   · rw [if_pos h1]
     by_cases h2 : l[i].2.2.length ≤ 100000
     · rw [if_pos h2]
       by_cases h3 : i = 0
       · rw [if_pos h3]
         exact ⟨fun _ => ⟨h1, h2, fun y h _ => absurd h3 h⟩, fun _ => rfl⟩
       · rw [if_neg h3, List.getElem?_eq_getElem (by omega : i - 1 < l.length)]
         show (if _ then _ else _) = none ↔ _
         by_cases h4 : l[i - 1].1 < l[i].1
         · rw [if_pos h4]
           exact ⟨fun _ => ⟨h1, h2, fun y _ h => by rw [← Option.some.inj h]; exact h4⟩, fun _ => rfl⟩
         · rw [if_neg h4]
           exact ⟨fun h => (by cases h), fun h => absurd (h.2.2 _ h3 rfl) h4⟩
     · rw [if_neg h2]
       exact ⟨fun h => (by cases h), fun h => absurd h.2.1 h2⟩
   · rw [if_neg h1]
     exact ⟨fun h => (by cases h), fun h => absurd h.1 h1⟩
 constructor
 · intro h
   have h' : ∀ i (hi : i < l.length), _ := fun i hi => (key i hi).1 (h i (Nat.zero_le _) (by omega))
   refine ⟨fun x hx => ?_, fun x hx => ?_, (asc_iff l).1 fun i hi => (h' i hi).2.2⟩
   · obtain ⟨i, hi, rfl⟩ := List.getElem_of_mem hx; exact (h' i hi).1
   · obtain ⟨i, hi, rfl⟩ := List.getElem_of_mem hx; exact (h' i hi).2.1
 · intro h i _ hi
   have hi : i < l.length := by omega
   exact (key i hi).2 ⟨h.path _ (List.getElem_mem _), h.few _ (List.getElem_mem _), (asc_iff l).2 h.asc i hi⟩
theorem blob_CheckFiles_eq {N : Nat} (hN : big ≤ N) (l : List FileT) : blob_CheckFiles N l = some (filesS l) := by
 have hb : (18446744073709551616 : Nat) ≤ N := hN
 unfold blob_CheckFiles filesS
 by_cases h0 : l.length ≤ 1000
 case neg => rw [br_pos (by omega : (l.length : Int) > 1000), if_neg h0]
 rw [br_neg (by omega : ¬ (l.length : Int) > 1000), if_pos h0]
 refine (exit_loop (S := Int × Int × List (Str × Bool)) l.length (fun i => (totF l i, (i : Int), keysM ((l.take i).map (·.1)) [])) (fun i => (scanX l i).map some) (f := fun n s => z24L0 N l l (l.length : Int) _ n s.1 s.2.1 s.2.2) (r := z24L1 N l (l.length : Int) (keysM ((l.take l.length).map (·.1)) []) (br (decide (totF l l.length > 2000000)) (some 2) (some 0)) N 0) (fun n i hi => ?_) (fun n => ?_) N (by omega)).trans ?_
 · show z24L0T N l l _ _ (z24L0 N l l _ _ n) (totF l i) (i : Int) _ = _
   have hw : IntKind.i64.wrap ((i : Int) + 1) = ((i + 1 : Nat) : Int) := by rw [wrap_id (by omega) (by omega)]; omega
   have e2 : keysM ((l.take (i + 1)).map (·.1)) [] = mset (keysM ((l.take i).map (·.1)) []) l[i].1 true := by rw [List.take_succ_eq_append_getElem hi, List.map_append]; exact keysM_snoc _ _ _
   show _ = (Option.map some (scanX l i)).getD (z24L0 N l l _ _ n (totF l (i + 1)) ((i + 1 : Nat) : Int) (keysM ((l.take (i + 1)).map (·.1)) []))
   unfold z24L0T
   rw [br_pos (by omega : (i : Int) < (l.length : Int)), geti_lt l hi, bnd_some, isPath_eq, isPath_all hN, bnd_some, hw, e2, totF_succ hi]
   unfold scanX
   rw [List.getElem?_eq_getElem hi]
   dsimp only
   by_cases h1 : pathB l[i].1 = true
   · rw [h1, if_pos rfl, Bool.not_true, br_false]
     by_cases h2 : l[i].2.2.length ≤ 100000
     · rw [br_neg (by omega : ¬ (l[i].2.2.length : Int) > 100000), if_pos h2]
       by_cases h3 : i = 0
       · rw [br_neg (by omega : ¬ (i : Int) > 0), if_pos h3]; rfl
       · have hp : IntKind.i64.wrap ((i : Int) - 1) = ((i - 1 : Nat) : Int) := by rw [wrap_id (by omega) (by omega)]; omega
         rw [br_pos (by omega : (i : Int) > 0), if_neg h3, hp, geti_lt l (by omega : i - 1 < l.length), bnd_some, List.getElem?_eq_getElem (by omega : i - 1 < l.length), le_not]
         dsimp only
         by_cases h4 : l[i - 1].1 < l[i].1
         · rw [if_pos h4, decide_eq_true h4]; simp
         · rw [if_neg h4, decide_eq_false h4]; simp
     · rw [br_pos (by omega : (l[i].2.2.length : Int) > 100000), if_neg h2]; simp
   · rw [if_neg h1]
     rw [Bool.not_eq_true] at h1
     rw [h1]; simp
 · show z24L0T N l l _ _ _ _ (l.length : Int) _ = _
   unfold z24L0T
   rw [br_neg (by omega)]
 · rw [exits_map]
   cases h : exits (scanX l) l.length 0 with
   | some z => rfl
   | none =>
     have ok := (scan_ok l).1 h
     show z24L1 N l _ _ _ N 0 = some (if _ then _ else _)
     rw [scan_loop (xs := l) (fun x => !clashB (hasB l) x.1) (k := br (decide (totF l l.length > 2000000)) (some 2) (some 0)) (bad := some 12) (f := fun n i => z24L1 N l _ _ _ n i) (fun n i hi => ?_) (fun n => ?_) N (by omega)]
     · by_cases h5 : totF l l.length > 2000000
       · rw [br_pos h5, if_pos h5]; split <;> rfl
       · rw [br_neg h5, if_neg h5]; split <;> rfl
     · show z24L1T N l _ _ _ (z24L1 N l _ _ _ n) (i : Int) = _
       have hw : IntKind.i64.wrap ((i : Int) + 1) = ((i + 1 : Nat) : Int) := by rw [wrap_id (by omega) (by omega)]; omega
       have hlen := pathB_len (ok.path l[i] (List.getElem_mem _))
       unfold z24L1T
       rw [br_pos (by omega : (i : Int) < (l.length : Int)), geti_lt l hi, bnd_some, clash_blob hN (has := hasB l) (fun p => ?_) (by omega), bnd_some, hw]
       · cases clashB (hasB l) l[i].1 <;> simp
       · rw [keysM_get, List.take_length, List.any_map]
         show _ = l.any _
         cases h6 : l.any ((fun x => p == x) ∘ fun x => x.1) with
         | true => exact h6.symm
         | false => exact h6.symm
     · show z24L1T N l _ _ _ _ (l.length : Int) = _
       unfold z24L1T
       rw [br_neg (by omega)]
theorem ref_CheckFiles_eq {N : Nat} (hN : big ≤ N) (l : List FileT) : ref1_CheckFiles N l = some (filesS l) := by
 have hb : (18446744073709551616 : Nat) ≤ N := hN
 unfold ref1_CheckFiles filesS
 by_cases h0 : l.length ≤ 1000
 case neg => rw [br_pos (by omega : (l.length : Int) > 1000), if_neg h0]
 rw [br_neg (by omega : ¬ (l.length : Int) > 1000), if_pos h0]
 refine (exit_loop (S := Int × Int) l.length (fun i => (totF l i, (i : Int))) (fun i => (scanX l i).map some) (f := fun n s => ref1_CheckFiles_L0 N l _ n s.1 s.2) (r := ref1_CheckFiles_L1 N l (br (decide (totF l l.length > 2000000)) (some 2) (some 0)) N 0) (fun n i hi => ?_) (fun n => ?_) N (by omega)).trans ?_
 · show ref1_CheckFiles_L0T N l _ (ref1_CheckFiles_L0 N l _ n) (totF l i) (i : Int) = _
   have hw : IntKind.i64.wrap ((i : Int) + 1) = ((i + 1 : Nat) : Int) := by rw [wrap_id (by omega) (by omega)]; omega
   show _ = (Option.map some (scanX l i)).getD (ref1_CheckFiles_L0 N l _ n (totF l (i + 1)) ((i + 1 : Nat) : Int))
   unfold ref1_CheckFiles_L0T
   simp only [geti_lt l hi, bnd_some]
   rw [br_pos (by omega : (i : Int) < (l.length : Int)), isPath_all hN, bnd_some, hw, totF_succ hi]
   unfold scanX
   rw [List.getElem?_eq_getElem hi]
   dsimp only
   by_cases h1 : pathB l[i].1 = true
   · rw [h1, if_pos rfl, Bool.not_true, br_false]
     by_cases h2 : l[i].2.2.length ≤ 100000
     · rw [br_neg (by omega : ¬ (l[i].2.2.length : Int) > 100000), if_pos h2]
       by_cases h3 : i = 0
       · rw [br_neg (by omega : ¬ (i : Int) > 0), if_pos h3]; rfl
       · have hp : IntKind.i64.wrap ((i : Int) - 1) = ((i - 1 : Nat) : Int) := by rw [wrap_id (by omega) (by omega)]; omega
         rw [br_pos (by omega : (i : Int) > 0), if_neg h3, hp, geti_lt l (by omega : i - 1 < l.length), bnd_some, List.getElem?_eq_getElem (by omega : i - 1 < l.length), le_not]
         dsimp only
         by_cases h4 : l[i - 1].1 < l[i].1
         · rw [if_pos h4, decide_eq_true h4]; simp
         · rw [if_neg h4, decide_eq_false h4]; simp
     · rw [br_pos (by omega : (l[i].2.2.length : Int) > 100000), if_neg h2]; simp
   · rw [if_neg h1]
     rw [Bool.not_eq_true] at h1
     rw [h1]; simp
 · show ref1_CheckFiles_L0T N l _ _ _ (l.length : Int) = _
   unfold ref1_CheckFiles_L0T
   rw [br_neg (by omega)]
 · rw [exits_map]
   cases h : exits (scanX l) l.length 0 with
   | some z => rfl
   | none =>
     have ok := (scan_ok l).1 h
     show ref1_CheckFiles_L1 N l _ N 0 = some (if _ then _ else _)
     rw [scan_loop (xs := l) (fun x => !clashB (hasB l) x.1) (k := br (decide (totF l l.length > 2000000)) (some 2) (some 0)) (bad := some 12) (f := fun n i => ref1_CheckFiles_L1 N l _ n i) (fun n i hi => ?_) (fun n => ?_) N (by omega)]
     · by_cases h5 : totF l l.length > 2000000
       · rw [br_pos h5, if_pos h5]; split <;> rfl
       · rw [br_neg h5, if_neg h5]; split <;> rfl
     · show ref1_CheckFiles_L1T N l _ (ref1_CheckFiles_L1 N l _ n) (i : Int) = _
       have hw : IntKind.i64.wrap ((i : Int) + 1) = ((i + 1 : Nat) : Int) := by rw [wrap_id (by omega) (by omega)]; omega
       have hlen := pathB_len (ok.path l[i] (List.getElem_mem _))
       unfold ref1_CheckFiles_L1T
       rw [br_pos (by omega : (i : Int) < (l.length : Int)), geti_lt l hi, bnd_some, clash_ref hN (has := hasB l) (fun p => there_eq hN (by omega) ok.asc p) (by omega), bnd_some, hw]
       cases clashB (hasB l) l[i].1 <;> simp
     · show ref1_CheckFiles_L1T N l _ _ (l.length : Int) = _
       unfold ref1_CheckFiles_L1T
       rw [br_neg (by omega)]
structure FilesOk (l : List FileT) : Prop where
 len : l.length ≤ 1000
 ok : OkF l
 calm : ∀ x ∈ l, clashB (hasB l) x.1 = false
 tot : ¬ totF l l.length > 2000000
theorem files_iff (l : List FileT) : filesS l = 0 ↔ FilesOk l := by
 unfold filesS
 constructor
 · intro h
   by_cases h0 : l.length ≤ 1000
   case neg => rw [if_neg h0] at h; cases h
   rw [if_pos h0] at h
   cases hx : exits (scanX l) l.length 0 with
   | some z =>
     rw [hx] at h
     obtain ⟨j, _, h2, h3, _⟩ := exits_some hx
     have h : z = 0 := h
     subst h
     unfold scanX at h3
     split at h3
     · split at h3
       · split at h3
         · split at h3
           · cases h3
           · split at h3
             · split at h3 <;> cases h3
             · cases h3
         · cases h3
       · cases h3
     · cases h3
   | none =>
     rw [hx] at h
     have ok := (scan_ok l).1 hx
     have h : (if l.all (fun x => !clashB (hasB l) x.1) = true then (if totF l l.length > 2000000 then (2 : Int) else 0) else 12) = 0 := h
     split at h
     · rename_i h1
       split at h
       · cases h
       · rename_i h2
         exact ⟨h0, ok, fun x hx => by have := List.all_eq_true.1 h1 x hx; simpa using this, h2⟩
     · cases h
 · intro h
   rw [if_pos h.len, (scan_ok l).2 h.ok, if_pos (List.all_eq_true.2 fun x hx => by simp [h.calm x hx]), if_neg h.tot]; rfl
end Go.Proofs.YtjiddcchklaiiaaGreatDoor


/- The trees, plainly: right files. -/
namespace Go.Proofs.YtjiddcchklaiiaaGreatDoor
set_option linter.unusedVariables false
set_option linter.unusedSimpArgs false
open Go Go.RowKit
theorem good_of {l : List FileD} (h : FilesOk l) : GoodL l := by
 refine ⟨h.ok.asc, fun x hx y hy hp => ?_⟩
 have hc := h.calm y hy
 obtain ⟨r, hr⟩ := hp
 have hlen : x.1.length < y.1.length := by rw [← hr]; simp
 have : clashB (hasB l) y.1 = true := by
   unfold clashB
   rw [List.any_eq_true]
   refine ⟨x.1.length, List.mem_range.2 hlen, ?_⟩
   have e1 : y.1[x.1.length]? = some 47 := by rw [← hr]; simp
   have e2 : y.1.take x.1.length = x.1 := by rw [← hr]; simp [List.take_append]
   rw [e1, e2]
   simp only [beq_self_eq_true, Bool.true_and]
   exact hasB_iff.2 ⟨x, hx, rfl⟩
 rw [hc] at this
 cases this
end Go.Proofs.YtjiddcchklaiiaaGreatDoor


/- The trees, plainly: what lies within a directory is right again. -/
namespace Go.Proofs.YtjiddcchklaiiaaGreatDoor
set_option linter.unusedVariables false
set_option linter.unusedSimpArgs false
open Go Go.RowKit
theorem lt_app : ∀ (p a b : Str), p ++ a < p ++ b ↔ a < b
 | [], a, b => Iff.rfl
 | c :: p, a, b => by
   rw [List.cons_append, List.cons_append, List.cons_lt_cons_iff, lt_app p a b]
   constructor
   · rintro (h | ⟨_, h⟩)
     · exact absurd h (UInt8.lt_irrefl _)
     · exact h
   · exact fun h => .inr ⟨rfl, h⟩
theorem within_elim {nm : Str} {x y : FileD} (h : (if (nm ++ [47]).isPrefixOf x.1 = true then some (x.1.drop (nm.length + 1), x.2) else none) = some y) : x.1 = nm ++ [47] ++ y.1 ∧ x.2 = y.2 := by
 split at h
 · rename_i hp
   obtain ⟨q, hq⟩ := List.isPrefixOf_iff_prefix.1 hp
   obtain rfl := Option.some.inj h
   refine ⟨?_, rfl⟩
   simp only []
   rw [← hq]
   simp [List.drop_append]
 · cases h
theorem within_mem2 {nm : Str} {l : List FileD} {y : FileD} (h : y ∈ within nm l) : ∃ x ∈ l, x.1 = nm ++ [47] ++ y.1 ∧ x.2 = y.2 := by
 unfold within at h
 obtain ⟨x, hx, he⟩ := List.mem_filterMap.1 h
 exact ⟨x, hx, within_elim he⟩
theorem good_within {l : List FileD} (hg : GoodL l) (nm : Str) : GoodL (within nm l) := by
 refine ⟨?_, fun x hx y hy hp => ?_⟩
 · unfold within
   rw [List.pairwise_filterMap]
   refine hg.asc.imp fun {a b} hab y hy z hz => ?_
   have h1 := (within_elim hy).1
   have h2 := (within_elim hz).1
   rw [h1, h2] at hab
   exact (lt_app _ _ _).1 hab
 · obtain ⟨a, ha, ea, _⟩ := within_mem2 hx
   obtain ⟨b, hb, eb, _⟩ := within_mem2 hy
   refine hg.apart a ha b hb ?_
   obtain ⟨r, hr⟩ := hp
   exact ⟨r, by rw [ea, eb, ← hr]; simp⟩
theorem within_len (nm : Str) (l : List FileD) : (within nm l).length ≤ l.length := List.length_filterMap_le _ _
end Go.Proofs.YtjiddcchklaiiaaGreatDoor


/- The trees, plainly: the two digests (begun). -/
namespace Go.Proofs.YtjiddcchklaiiaaGreatDoor
set_option linter.unusedVariables false
set_option linter.unusedSimpArgs false
open Go Go.RowKit
theorem dig0 (N : Nat) (x : List UInt8) (k0 : Int → Option Str) : ∀ f s i, z43L0 N x (x.length : Int) k0 f s i = z50L0 N x k0 f s i
 | 0, _, _ => rfl
 | f + 1, s, i => by
   have e : z43L0 N x (x.length : Int) k0 f = z50L0 N x k0 f := funext fun s => funext fun i => dig0 N x k0 f s i
   rw [z43L0, z50L0, e]
   rfl
theorem dig_range {R : Type} (N : Nat) (x : List UInt8) (hN : x.length < N) (hl : x.length ≤ 4611686018427387904) : ∃ h : Int, 0 ≤ h ∧ h < 18446744073709551616 ∧ ∀ k0 : Int → Option Str, z50L0 N x k0 N 14695981039346656037 0 = k0 h := by
 have key : ∀ (m i : Nat) (s : Int) (f : Nat), x.length - i = m → i ≤ x.length → x.length ≤ 4611686018427387904 → m < f → 0 ≤ s → s < 18446744073709551616 → ∃ h : Int, 0 ≤ h ∧ h < 18446744073709551616 ∧ ∀ k0 : Int → Option Str, z50L0 N x k0 f s i = k0 h := by
   intro m
   induction m with
   | zero =>
     intro i s f h1 h2 h3 h4 h5 h6
     obtain ⟨f, rfl⟩ : ∃ g, f = g + 1 := ⟨f - 1, by omega⟩
     refine ⟨s, h5, h6, fun k0 => ?_⟩
     rw [z50L0]
     unfold z50L0T
     rw [decide_eq_false (by omega), br_false]
   | succ m ih =>
     intro i s f h1 h2 h3 h4 h5 h6
     obtain ⟨f, rfl⟩ : ∃ g, f = g + 1 := ⟨f - 1, by omega⟩
     have hi : i < x.length := by omega
     obtain ⟨s', hs'⟩ : ∃ s', s' = IntKind.u64.wrap ((xorI .u64 s (IntKind.u64.wrap (UInt8.toNat x[i] : Int))) * (1099511628211 : Int)) := ⟨_, rfl⟩
     have hr : 0 ≤ s' ∧ s' < 18446744073709551616 := by rw [hs', IntKind.wrap_u64]; omega
     obtain ⟨h, q1, q2, q3⟩ := ih (i + 1) s' f (by omega) (by omega) h3 (by omega) hr.1 hr.2
     refine ⟨h, q1, q2, fun k0 => ?_⟩
     rw [z50L0]
     unfold z50L0T
     rw [decide_eq_true (by omega), br_true, geti_nat, List.getElem?_eq_getElem hi, bnd_some, ← hs', IntWalk.i64_in ((i : Int) + 1) (by omega)]
     exact q3 k0
 exact key x.length 0 _ N (by omega) (by omega) hl (by omega) (by decide) (by decide)
def hexD (k : Nat) : UInt8 := (([48, 49, 50, 51, 52, 53, 54, 55, 56, 57, 97, 98, 99, 100, 101, 102] : Str)[k]?).getD 0
def hexS (h : Nat) : Nat → Str
 | 0 => []
 | j + 1 => hexD ((h / 16 ^ j) % 16) :: hexS h j
theorem hex_slc : ∀ k : Fin 16, slc ([48, 49, 50, 51, 52, 53, 54, 55, 56, 57, 97, 98, 99, 100, 101, 102] : Str) (k.val : Int) ((k.val : Int) + 1) = some [hexD k.val] := by decide
theorem ref_hex {N : Nat} (h : Nat) (hh : h < 18446744073709551616) (k2 : Str → Option Str) : ∀ (j : Nat) (s : Str) (f : Nat), j ≤ 16 → j < f → s.length + j ≤ 100 → z50L1 N (h : Int) k2 f s (4 * (j : Int) - 4) = k2 (s ++ hexS h j)
 | 0, s, f + 1, h1, h2, h3 => by
   rw [z50L1]
   unfold z50L1T
   rw [decide_eq_false (by omega), br_false]
   simp [hexS]
 | j + 1, s, f + 1, h1, h2, h3 => by
   rw [z50L1]
   unfold z50L1T
   have e1 : (4 * ((j + 1 : Nat) : Int) - 4) = ((4 * j : Nat) : Int) := by omega
   rw [e1, decide_eq_true (by omega), br_true, br_true, show ((16 : Int) == 0) = false from rfl, br_false]
   have e2 : shrI .u64 (h : Int) ((4 * j : Nat) : Int) = ((h / 16 ^ j : Nat) : Int) := by
     unfold shrI
     have e0 : (2 : Int) ^ (4 * j) = ((16 ^ j : Nat) : Int) := by
       rw [show (16 : Nat) = 2 ^ 4 from rfl, ← Nat.pow_mul]
       exact (Int.natCast_pow 2 (4 * j)).symm
     rw [Int.toNat_natCast, Nat.min_eq_left (by show 4 * j ≤ 64; omega), e0, Int.fdiv_eq_ediv_of_nonneg _ (Int.natCast_nonneg _)]
     norm_cast
   have e3 : Int.tmod ((h / 16 ^ j : Nat) : Int) 16 = (((h / 16 ^ j) % 16 : Nat) : Int) := by
     rw [Int.tmod_eq_emod_of_nonneg (Int.natCast_nonneg _)]; norm_cast
   have hk : (h / 16 ^ j) % 16 < 16 := Nat.mod_lt _ (by decide)
   obtain ⟨k, hkk⟩ : ∃ k, (h / 16 ^ j) % 16 = k := ⟨_, rfl⟩
   rw [hkk] at hk
   rw [e2, e3, hkk, IntWalk.u64_in ((k : Int) + 1) (by omega), hex_slc ⟨k, hk⟩, bnd_some, decide_eq_true (by simp; omega), br_true, w64 (((4 * j : Nat) : Int) - 4) (by omega) (by omega)]
   have hsl : (s ++ [hexD k]).length ≤ 100 + 1 := by rw [List.length_append, List.length_singleton]; omega
   have ih := ref_hex (N := N) h hh k2 j (s ++ [hexD k]) f (by omega) (by omega) (by rw [List.length_append, List.length_singleton]; omega)
   have e4 : ((4 * j : Nat) : Int) - 4 = 4 * (j : Int) - 4 := by omega
   rw [e4, ih]
   simp [hexS, hkk]
end Go.Proofs.YtjiddcchklaiiaaGreatDoor


/- The trees, plainly: both digests are the same. -/
namespace Go.Proofs.YtjiddcchklaiiaaGreatDoor
set_option linter.unusedVariables false
set_option linter.unusedSimpArgs false
open Go Go.RowKit
theorem and15 (h : Nat) (hh : h < 18446744073709551616) : andI .u64 (h : Int) 15 = ((h % 16 : Nat) : Int) := by
 have e1 : (BitVec.ofInt 64 (h : Int)).toNat = h := by
   rw [BitVec.toNat_ofInt]; omega
 have e2 : (BitVec.ofInt 64 (15 : Int)).toNat = 15 := by decide
 show IntKind.u64.wrap (((BitVec.ofInt 64 (h : Int) &&& BitVec.ofInt 64 (15 : Int)).toNat : Nat) : Int) = _
 have e3 : h &&& 15 = h % 16 := Nat.and_two_pow_sub_one_eq_mod h 4
 rw [BitVec.toNat_and, e1, e2, e3, IntWalk.u64_in _ (by omega)]
theorem shr4 (g : Nat) : shrI .u64 (g : Int) 4 = ((g / 16 : Nat) : Int) := by
 unfold shrI
 have e : (2 : Int) ^ (min (4 : Int).toNat IntKind.u64.bits) = ((16 : Nat) : Int) := by decide
 rw [e, Int.fdiv_eq_ediv_of_nonneg _ (Int.natCast_nonneg _)]
 norm_cast
theorem hex_geti : ∀ k : Fin 16, geti ([48, 49, 50, 51, 52, 53, 54, 55, 56, 57, 97, 98, 99, 100, 101, 102] : Str) (k.val : Int) = some (hexD k.val) := by decide
theorem hexS_len (h : Nat) : ∀ j, (hexS h j).length = j
 | 0 => rfl
 | j + 1 => by rw [hexS, List.length_cons, hexS_len h j]
theorem blob_hex {N : Nat} (h : Nat) (hh : h < 18446744073709551616) (k2 : List UInt8 → Option Str) : ∀ (m i f : Nat), m + i = 16 → m < f → z43L1 N 16 k2 f ((h / 16 ^ i : Nat) : Int) (i : Int) (List.replicate m 0 ++ hexS h i) = k2 (hexS h 16)
 | 0, i, f + 1, h1, _ => by
   obtain rfl : i = 16 := by omega
   rw [z43L1]
   unfold z43L1T
   rw [decide_eq_false (by omega), br_false]
   rfl
 | m + 1, i, f + 1, h1, h2 => by
   rw [z43L1]
   unfold z43L1T
   obtain ⟨g, hg⟩ : ∃ g, h / 16 ^ i = g := ⟨_, rfl⟩
   have hgl : g < 18446744073709551616 := by rw [← hg]; exact Nat.lt_of_le_of_lt (Nat.div_le_self _ _) hh
   have hk : g % 16 < 16 := Nat.mod_lt _ (by decide)
   have e0 : List.replicate (m + 1) (0 : UInt8) ++ hexS h i = List.replicate m 0 ++ 0 :: hexS h i := by rw [List.replicate_succ']; simp
   have e1 : IntKind.i64.wrap ((15 : Int) - (i : Int)) = (m : Int) := by rw [w64 _ (by omega) (by omega)]; omega
   have e2 : shrI .u64 (g : Int) 4 = ((h / 16 ^ (i + 1) : Nat) : Int) := by
     rw [shr4, ← hg, Nat.div_div_eq_div_mul, Nat.pow_succ]
   have hlen : (m : Int) < ((List.replicate m (0 : UInt8) ++ 0 :: hexS h i).length : Int) := by
     rw [List.length_append, List.length_cons, List.length_replicate]; omega
   have hpos : (m : Int) = ((List.replicate m (0 : UInt8)).length : Int) := by rw [List.length_replicate]
   have hx : geti ([48, 49, 50, 51, 52, 53, 54, 55, 56, 57, 97, 98, 99, 100, 101, 102] : Str) ((g % 16 : Nat) : Int) = some (hexD (g % 16)) := hex_geti ⟨g % 16, hk⟩
   rw [hg, decide_eq_true (by omega), br_true, and15 g hgl, hx, bnd_some, e1, e0, decide_eq_true ⟨by omega, hlen⟩, br_true, geti_at _ _ _ _ hpos, bnd_some, decide_eq_true (by decide), br_true, e2, w64 ((i : Int) + 1) (by omega) (by omega), seti_at _ _ _ _ _ hpos]
   have ih := blob_hex (N := N) h hh k2 m (i + 1) f (by omega) (by omega)
   rw [hexS, hg] at ih
   exact ih
noncomputable def dg (N : Nat) (x : List UInt8) : Str := (ref1_Digest N x).getD []
structure Digs (N : Nat) (x : List UInt8) : Prop where
 ref : ref1_Digest N x = some (dg N x)
 blob : blob_Digest N x = some (dg N x)
 len : (dg N x).length = 16
theorem digs {N : Nat} (hN : big ≤ N) {x : List UInt8} (hl : x.length ≤ 4611686018427387904) : Digs N x := by
 have hb : big = 18446744073709551616 := rfl
 obtain ⟨h, h0, h1, hk⟩ := dig_range (R := Nat) N x (by omega) hl
 obtain ⟨n, rfl⟩ := Int.eq_ofNat_of_zero_le h0
 have hn : n < 18446744073709551616 := by omega
 have hr : ref1_Digest N x = some (hexS n 16) := by
   unfold ref1_Digest
   rw [hk]
   have := ref_hex (N := N) n hn (fun o1_5 => some o1_5) 16 [] N (by omega) (by omega) (by simp)
   exact this
 have hd : dg N x = hexS n 16 := by unfold dg; rw [hr]; rfl
 refine ⟨by rw [hr, hd], ?_, by rw [hd, hexS_len]⟩
 unfold blob_Digest
 rw [dig0, hk, decide_eq_true (by decide), br_true]
 have := blob_hex (N := N) n hn (fun o1 => some o1) 16 0 N (by omega) (by omega)
 rw [Nat.pow_zero, Nat.div_one] at this
 rw [hd]
 exact this
end Go.Proofs.YtjiddcchklaiiaaGreatDoor


/- The trees, plainly: both directory texts are the same. -/
namespace Go.Proofs.YtjiddcchklaiiaaGreatDoor
set_option linter.unusedVariables false
set_option linter.unusedSimpArgs false
open Go Go.RowKit
noncomputable def lineT (N : Nat) (tx : List FileD → Str) (nd : NodeD) : Str := match nd.2.1 with
 | some x => [102, 105, 108, 101, 32] ++ nd.1 ++ [32] ++ dg N x.2.2 ++ [32] ++ (if x.2.1 = true then [120] else [45]) ++ [10]
 | none => [100, 105, 114, 32] ++ nd.1 ++ [32] ++ dg N (tx nd.2.2) ++ [10]
noncomputable def nodesL (l : List FileD) : List NodeD := (blob_nodes l).getD []
noncomputable def txt (N : Nat) : Nat → List FileD → Str
 | 0, _ => []
 | d + 1, l => (nodesL l).flatMap (lineT N (txt N d))
structure Tame (d : Nat) (l : List FileD) : Prop where
 good : GoodL l
 len : l.length ≤ 1000
 path : ∀ x ∈ l, x.1.length < d
 deep : d ≤ 201
 byt : ∀ x ∈ l, x.2.2.length ≤ 100000
theorem Tame.within {d : Nat} {l : List FileD} (h : Tame (d + 1) l) (nm : Str) : Tame d (within nm l) where
 good := good_within h.good nm
 len := Nat.le_trans (within_len nm l) h.len
 path := fun y hy => by
   obtain ⟨x, hx, e, _⟩ := within_mem2 hy
   have := h.path x hx
   rw [e, List.length_append, List.length_append, List.length_singleton] at this
   omega
 deep := by have := h.deep; omega
 byt := fun y hy => by
   obtain ⟨x, hx, _, e⟩ := within_mem2 hy
   rw [← e]; exact h.byt x hx
theorem tn_perm {l : List FileD} {T : List NodeD} (h : TN l T) : T.Perm (l.foldl nodeStep []) := by
 have h1 := h.nodes
 unfold blob_nodes at h1
 split at h1
 · rename_i hc
   have hsm := small_take l l.length (Nat.le_refl _)
   rw [List.take_length] at hsm
   obtain ⟨T', t1, _, t3⟩ := stable_ok (N := 2000000) (by omega) (l.foldl nodeStep []) (Nat.le_trans hsm.1 hc.1)
   rw [t3] at h1
   cases h1
   exact t1
 · cases h1
theorem tn_len {l : List FileD} {T : List NodeD} (h : TN l T) : T.length ≤ l.length := by
 have hsm := small_take l l.length (Nat.le_refl _)
 rw [List.take_length] at hsm
 rw [(tn_perm h).length_eq]
 exact hsm.1
theorem Tame.tn {d : Nat} {l : List FileD} (h : Tame d l) : TN l (nodesL l) := by
 have h1 := h.len
 have h2 := h.deep
 obtain ⟨T, hT⟩ := tn_of h.good (by omega) (fun x hx => by have := h.path x hx; omega)
 have : nodesL l = T := by unfold nodesL; rw [hT.nodes]; rfl
 rw [this]; exact hT
theorem Tame.zero {l : List FileD} (h : Tame 0 l) : l = [] := by
 cases l with
 | nil => rfl
 | cons x l => exact absurd (h.path x List.mem_cons_self) (by omega)
theorem nodesL_nil : nodesL [] = [] := by
 have h : Tame 0 [] := ⟨⟨List.Pairwise.nil, fun x hx => absurd hx List.not_mem_nil⟩, by simp, fun x hx => absurd hx List.not_mem_nil, by omega, fun x hx => absurd hx List.not_mem_nil⟩
 have := tn_len h.tn
 exact List.eq_nil_of_length_eq_zero (by simpa using this)
def NdG (N : Nat) (r1 : List NodeD → Option (List UInt8)) (r2 : List FileD → Option Str) (tx : List FileD → Str) (l : List FileD) (nd : NodeD) : Prop :=
 nd.1.length ≤ 200 ∧ ((∃ x, nd = (nd.1, some x, []) ∧ x.2.2.length ≤ 100000 ∧ ref1_below N l nd.1 = some (false, [x])) ∨
   (∃ fs T', nd = (nd.1, none, fs) ∧ (tx fs).length ≤ 1000000 ∧ ref1_below N l nd.1 = some (true, fs) ∧ blob_nodes fs = some T' ∧ r1 T' = some (tx fs) ∧ r2 fs = some (tx fs)))
theorem line_len {N : Nat} (hN : big ≤ N) {r1 : List NodeD → Option (List UInt8)} {r2 : List FileD → Option Str} {tx : List FileD → Str} {l : List FileD} {nd : NodeD} (h : NdG N r1 r2 tx l nd) : (lineT N tx nd).length ≤ 225 := by
 obtain ⟨h0, ⟨x, e, h1, _⟩ | ⟨fs, T', e, h1, _⟩⟩ := h
 · rw [e]
   have hd := (digs hN (x := x.2.2) (by omega)).len
   unfold lineT
   dsimp only
   cases x.2.1 <;> simp only [List.length_append, List.length_cons, List.length_nil, hd, if_pos, Bool.false_eq_true, if_false, if_true] <;> omega
 · rw [e]
   have hd := (digs hN (x := tx fs) (by omega)).len
   unfold lineT
   dsimp only
   simp only [List.length_append, List.length_cons, List.length_nil, hd]
   omega
theorem dirText_loop {N : Nat} (hN : big ≤ N) {r1 : List NodeD → Option (List UInt8)} {r2 : List FileD → Option Str} {tx : List FileD → Str} {l : List FileD} (k : List UInt8 → Option (List UInt8)) :
   ∀ (R P : List NodeD) (w : List UInt8) (fuel : Nat), (∀ nd ∈ R, NdG N r1 r2 tx l nd) → P.length + R.length ≤ 1000000 → w.length + 225 * R.length ≤ 1000000 → R.length < fuel →
     z30L0 N r1 (P ++ R) ((P ++ R).length : Int) k fuel (P.length : Int) w = k (w ++ R.flatMap (lineT N tx))
 | [], P, w, f + 1, _, _, _, _ => by
   rw [z30L0]
   unfold z30L0T
   rw [decide_eq_false (by simp), br_false]
   simp
 | nd :: R, P, w, f + 1, hR, h1, h2, h3 => by
   have hg := hR nd List.mem_cons_self
   have hll := line_len hN hg
   have ih := fun w' hw' => dirText_loop hN (r1 := r1) (r2 := r2) (tx := tx) (l := l) k R (P ++ [nd]) w' f (fun x hx => hR x (List.mem_cons_of_mem _ hx)) (by simp at h1 ⊢; omega) hw' (by simp at h3; omega)
   rw [List.length_cons] at h1 h2 h3
   have hpl : (P ++ [nd]).length = P.length + 1 := by rw [List.length_append, List.length_singleton]
   rw [List.append_assoc, List.singleton_append, hpl] at ih
   rw [z30L0]
   unfold z30L0T
   have hnext : IntKind.i64.wrap ((P.length : Int) + 1) = ((P.length + 1 : Nat) : Int) := by rw [w64 _ (by omega) (by omega)]; omega
   rw [decide_eq_true (by rw [List.length_append, List.length_cons]; omega), br_true, geti_app, bnd_some, hnext]
   rw [List.flatMap_cons, ← List.append_assoc]
   have hfin : ∀ s : List UInt8, s = lineT N tx nd → z30L0 N r1 (P ++ nd :: R) ((P ++ nd :: R).length : Int) k f ((P.length + 1 : Nat) : Int) (w ++ s) = k (w ++ lineT N tx nd ++ R.flatMap (lineT N tx)) := by
     rintro s rfl
     exact ih _ (by rw [List.length_append]; omega)
   obtain ⟨h0, ⟨x, e, hb, _⟩ | ⟨fs, T', e, hb, _, hn, hr, _⟩⟩ := hg
   · have hd := digs hN (x := x.2.2) (by omega)
     have hdl := hd.len
     have e1 : nd.2.1 = some x := by rw [e]
     have hs : ∀ b, x.2.1 = b → lineT N tx nd = [102, 105, 108, 101, 32] ++ nd.1 ++ [32] ++ dg N x.2.2 ++ [32] ++ (if b = true then [120] else [45]) ++ [10] := by
       rintro b rfl; unfold lineT; rw [e1]
     rw [e1]
     simp only [Option.isNone_some, Bool.not_false, br_true, bnd_some, hd.blob]
     cases hx : x.2.1 with
     | true =>
       have hs := hs true hx
       simp only [br_true]
       iterate 6 (rw [decide_eq_true (by simp only [List.length_append, List.length_cons, List.length_nil]; omega), br_true])
       rw [decide_eq_true (by simp only [List.length_append, List.length_cons, List.length_nil, show Ty.sz .u8 = 1 from rfl]; omega), br_true]
       exact hfin _ hs.symm
     | false =>
       have hs := hs false hx
       simp only [br_false]
       iterate 6 (rw [decide_eq_true (by simp only [List.length_append, List.length_cons, List.length_nil]; omega), br_true])
       rw [decide_eq_true (by simp only [List.length_append, List.length_cons, List.length_nil, show Ty.sz .u8 = 1 from rfl]; omega), br_true]
       exact hfin _ hs.symm
   · have hd := digs hN (x := tx fs) (by omega)
     have hdl := hd.len
     have e1 : nd.2.1 = none := by rw [e]
     have e2 : nd.2.2 = fs := by rw [e]
     have hs : lineT N tx nd = [100, 105, 114, 32] ++ nd.1 ++ [32] ++ dg N (tx fs) ++ [10] := by
       unfold lineT; rw [e1, e2]
     rw [e1, e2]
     simp only [Option.isNone_none, Bool.not_true, br_false]
     iterate 2 (rw [decide_eq_true (by simp only [List.length_append, List.length_cons, List.length_nil]; omega), br_true])
     rw [hn, bnd_some, hr, bnd_some, hd.blob, bnd_some]
     iterate 2 (rw [decide_eq_true (by simp only [List.length_append, List.length_cons, List.length_nil]; omega), br_true])
     rw [decide_eq_true (by simp only [List.length_append, List.length_cons, List.length_nil, show Ty.sz .u8 = 1 from rfl]; omega), br_true]
     exact hfin _ hs.symm
theorem text_loop {N : Nat} (hN : big ≤ N) {r1 : List NodeD → Option (List UInt8)} {r2 : List FileD → Option Str} {tx : List FileD → Str} {l : List FileD} (k : Str → Option Str) :
   ∀ (R P : List NodeD) (w : Str) (fuel : Nat), (∀ nd ∈ R, NdG N r1 r2 tx l nd) → P.length + R.length ≤ 1000000 → w.length + 225 * R.length ≤ 1000000 → R.length < fuel →
     z51L0 N r2 l ((P ++ R).map fun nd => nd.1) k fuel w (P.length : Int) = k (w ++ R.flatMap (lineT N tx))
 | [], P, w, f + 1, _, _, _, _ => by
   rw [z51L0]
   unfold z51L0T
   rw [decide_eq_false (by simp), br_false]
   simp
 | nd :: R, P, w, f + 1, hR, h1, h2, h3 => by
   have hg := hR nd List.mem_cons_self
   have hll := line_len hN hg
   have ih := fun w' hw' => text_loop hN (r1 := r1) (r2 := r2) (tx := tx) (l := l) k R (P ++ [nd]) w' f (fun x hx => hR x (List.mem_cons_of_mem _ hx)) (by simp at h1 ⊢; omega) hw' (by simp at h3; omega)
   rw [List.length_cons] at h1 h2 h3
   have hpl : (P ++ [nd]).length = P.length + 1 := by rw [List.length_append, List.length_singleton]
   rw [List.append_assoc, List.singleton_append, hpl] at ih
   rw [z51L0]
   unfold z51L0T
   have hnext : IntKind.i64.wrap ((P.length : Int) + 1) = ((P.length + 1 : Nat) : Int) := by rw [w64 _ (by omega) (by omega)]; omega
   have hge : geti ((P ++ nd :: R).map fun nd => nd.1) (P.length : Int) = some nd.1 := by
     rw [List.map_append, List.map_cons]
     exact geti_at _ _ _ _ (by rw [List.length_map])
   rw [decide_eq_true (by rw [List.length_map, List.length_append, List.length_cons]; omega), br_true, hge, bnd_some, hnext]
   rw [List.flatMap_cons, ← List.append_assoc]
   have hfin : ∀ s : Str, s = lineT N tx nd → z51L0 N r2 l ((P ++ nd :: R).map fun nd => nd.1) k f (w ++ s) ((P.length + 1 : Nat) : Int) = k (w ++ lineT N tx nd ++ R.flatMap (lineT N tx)) := by
     rintro s rfl
     exact ih _ (by rw [List.length_append]; omega)
   obtain ⟨h0, ⟨x, e, hb, hbe⟩ | ⟨fs, T', e, hb, hbe, hn, _, hr⟩⟩ := hg
   · have hd := digs hN (x := x.2.2) (by omega)
     have hdl := hd.len
     have e1 : nd.2.1 = some x := by rw [e]
     have hs : ∀ b, x.2.1 = b → lineT N tx nd = [102, 105, 108, 101, 32] ++ nd.1 ++ [32] ++ dg N x.2.2 ++ [32] ++ (if b = true then [120] else [45]) ++ [10] := by
       rintro b rfl; unfold lineT; rw [e1]
     have h0 : geti [x] (0 : Int) = some x := rfl
     rw [hbe]
     simp only [bnd_some, br_false, h0, hd.ref]
     cases hx : x.2.1 with
     | true =>
       have hs := hs true hx
       simp only [br_true]
       iterate 5 (rw [decide_eq_true (by simp only [List.length_append, List.length_cons, List.length_nil]; omega), br_true])
       exact hfin _ (by rw [hs, if_pos rfl]; simp only [List.append_assoc]; rfl)
     | false =>
       have hs := hs false hx
       simp only [br_false]
       iterate 5 (rw [decide_eq_true (by simp only [List.length_append, List.length_cons, List.length_nil]; omega), br_true])
       exact hfin _ (by rw [hs, if_neg (by decide)]; simp only [List.append_assoc]; rfl)
   · have hd := digs hN (x := tx fs) (by omega)
     have hdl := hd.len
     have e1 : nd.2.1 = none := by rw [e]
     have e2 : nd.2.2 = fs := by rw [e]
     have hs : lineT N tx nd = [100, 105, 114, 32] ++ nd.1 ++ [32] ++ dg N (tx fs) ++ [10] := by
       unfold lineT; rw [e1, e2]
     rw [hbe]
     simp only [bnd_some, br_true]
     iterate 2 (rw [decide_eq_true (by simp only [List.length_append, List.length_cons, List.length_nil]; omega), br_true])
     rw [hr, bnd_some, decide_eq_true (by omega), br_true, hd.ref, bnd_some]
     iterate 3 (rw [decide_eq_true (by simp only [List.length_append, List.length_cons, List.length_nil]; omega), br_true])
     exact hfin _ hs.symm
theorem flat_len {N : Nat} {tx : List FileD → Str} : ∀ {T : List NodeD}, (∀ nd ∈ T, (lineT N tx nd).length ≤ 225) → (T.flatMap (lineT N tx)).length ≤ 225 * T.length
 | [], _ => by simp
 | nd :: T, h => by
   have h1 := h nd List.mem_cons_self
   have h2 := flat_len (T := T) fun x hx => h x (List.mem_cons_of_mem _ hx)
   rw [List.flatMap_cons, List.length_append, List.length_cons]
   omega
structure TextOk (N d f : Nat) (l : List FileD) : Prop where
 blob : blob_dirText N f (nodesL l) = some (txt N d l)
 ref : ref1_text N f l = some (txt N d l)
 len : (txt N d l).length ≤ 225000
theorem name_len {d : Nat} {l : List FileD} (h : Tame d l) {nd : NodeD} (hn : NodeOk l nd) : nd.1.length ≤ 200 := by
 have hd := h.deep
 obtain ⟨_, ⟨x, hx, e, _⟩ | ⟨hw, _⟩⟩ := hn
 · have := h.path x hx; rw [← e]; omega
 · obtain ⟨x, hx, hp⟩ := within_mem hw
   have := h.path x hx
   have := hp.length_le
   rw [List.length_append] at this
   omega
theorem nodes_good {N : Nat} (hN : big ≤ N) {d f : Nat} {l : List FileD} (h : Tame (d + 1) l) (ih : ∀ fs, Tame d fs → TextOk N d f fs) {nd : NodeD} (hnd : nd ∈ nodesL l) : NdG N (blob_dirText N f) (ref1_text N f) (txt N d) l nd := by
 have hb : big = 18446744073709551616 := rfl
 have hok := h.tn.ok nd hnd
 have hl := name_len h hok
 have h1 := h.len
 refine ⟨hl, ?_⟩
 rcases below_ok (N := N) (by omega) h.good (by omega) hok (by omega) with ⟨x, hx, e, _, hbe⟩ | ⟨e, _, hbe⟩
 · exact .inl ⟨x, e, h.byt x hx, hbe⟩
 · have ht := h.within nd.1
   have hi := ih _ ht
   exact .inr ⟨within nd.1 l, _, e, by have := hi.len; omega, hbe, ht.tn.nodes, hi.blob, hi.ref⟩
theorem text_ok {N : Nat} (hN : big ≤ N) : ∀ (d : Nat) (l : List FileD), Tame d l → ∀ f, d < f → TextOk N d f l
 | 0, l, h, f + 1, _ => by
   have hb : big = 18446744073709551616 := rfl
   obtain rfl := h.zero
   obtain ⟨ks, hks⟩ := h.tn.names
   rw [nodesL_nil] at hks
   have a := dirText_loop hN (r1 := blob_dirText N f) (r2 := ref1_text N f) (tx := txt N 0) (l := []) (fun o => some o) [] [] [] N (fun nd hnd => absurd hnd List.not_mem_nil) (by simp) (by simp) (by simp; omega)
   have b := text_loop hN (r1 := blob_dirText N f) (r2 := ref1_text N f) (tx := txt N 0) (l := []) (fun o => some o) [] [] [] N (fun nd hnd => absurd hnd List.not_mem_nil) (by simp) (by simp) (by simp; omega)
   refine ⟨?_, ?_, by simp [txt]⟩
   · rw [nodesL_nil]
     exact a
   · show ref1_text_b N (ref1_text N f) [] = _
     unfold ref1_text_b
     rw [hks, bnd_some]
     exact b
 | d + 1, l, h, f + 1, hf => by
   have hb : big = 18446744073709551616 := rfl
   have hg := fun nd hnd => nodes_good hN h (fun fs hfs => text_ok hN d fs hfs f (by omega)) (nd := nd) hnd
   have hlen := tn_len h.tn
   have h1 := h.len
   obtain ⟨ks, hks⟩ := h.tn.names
   have a := dirText_loop hN (fun o => some o) (nodesL l) [] [] N hg (by simp; omega) (by simp; omega) (by omega)
   have b := text_loop hN (fun o => some o) (nodesL l) [] [] N hg (by simp; omega) (by simp; omega) (by omega)
   refine ⟨?_, ?_, ?_⟩
   · show blob_dirText_b N (blob_dirText N f) (nodesL l) = _
     unfold blob_dirText_b
     exact a
   · show ref1_text_b N (ref1_text N f) l = _
     unfold ref1_text_b
     rw [hks, bnd_some]
     exact b
   · have := flat_len (N := N) (tx := txt N d) (T := nodesL l) fun nd hnd => line_len hN (hg nd hnd)
     rw [txt]
     omega
end Go.Proofs.YtjiddcchklaiiaaGreatDoor

