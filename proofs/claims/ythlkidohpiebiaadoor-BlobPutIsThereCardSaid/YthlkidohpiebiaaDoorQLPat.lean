/- slices.SortFunc of structs by their first field, a name that each has but once, out of the kit's contract: it turns a row of its caller's. For any program. -/
import Derived.Test.YthlkidohpiebiaaDoorQBnF6
import Derived.Test.YthlkidohpiebiaaDoorQSlc
import Derived.Shelf.SlGeneric
import Derived.Shelf.SlSortCmp.WholeK
import Derived.Shelf.SlSortCmp.NoneTotal
import Derived.Ground.SlsfProg
import Derived.Test.YthlkidohpiebiaaDoorProg
import Derived.Test.YthlkidohpiebiaaDoorQBmD
import Derived.Shelf.Strings.SlTrimAscii
import Derived.Lib.Join
import Derived.ProofKit
import Derived.OpenShut
import Derived.ShutString
import Derived.DataReads
import Derived.ChangeShapes
import Derived.WideShapes
namespace Go.Proofs.YthlkidohpiebiaaDoor
set_option linter.unusedVariables false
set_option linter.unusedSimpArgs false
open Go Go.RowKit Go.Shelf Go.Sort
/-- A name, and n further cells. -/
def KC (n : Nat) : Type := { p : Str × List Value // p.2.length = n ∧ ∀ v ∈ p.2, v.oneCell' = true }
instance (n : Nat) : Inhabited (KC n) := ⟨⟨([], List.replicate n (.bool false)), by simp, fun v hv => by rw [List.eq_of_mem_replicate hv]; rfl⟩⟩
def encK {n : Nat} (x : KC n) : List Value := .string ⟨x.1.1.toArray⟩ :: x.1.2
theorem encK_len {n : Nat} (x : KC n) : (encK x).length = n + 1 := by unfold encK; rw [List.length_cons, x.2.1]
theorem encK_one {n : Nat} (x : KC n) : ∀ v ∈ encK x, v.oneCell' = true := fun v hv => by
  rcases List.mem_cons.1 hv with rfl | h
  · rfl
  · exact x.2.2 v h
theorem less_isK : ∀ (x y : List UInt8), Op.bytesLess x y = decide (x < y)
  | [], [] => by simp [Op.bytesLess]
  | _ :: _, [] => by simp [Op.bytesLess]
  | [], _ :: _ => by simp [Op.bytesLess]
  | a :: x, b :: y => by
    rw [Op.bytesLess, less_isK x y]
    simp only [List.cons_lt_cons_iff]
    by_cases h1 : a < b <;> by_cases h2 : a = b <;> by_cases h3 : x < y <;> simp [h1, h2, h3]
def cfK {n : Nat} (x y : KC n) : Int := if Op.bytesLess x.1.1 y.1.1 = true then -1 else if x.1.1 = y.1.1 then 0 else 1
theorem lt_cfK {n : Nat} (x y : KC n) : ltOf cfK x y = decide (x.1.1 < y.1.1) := by
  unfold ltOf cfK
  rw [less_isK]
  by_cases h : x.1.1 < y.1.1
  · simp [h]
  · by_cases h2 : x.1.1 = y.1.1
    · simp [h2, str_lt_irrefl y.1.1]
    · simp [h, h2]
theorem swo_cfK {n : Nat} : Sort.SWO (ltOf (cfK (n := n))) where
  irrefl x := by rw [lt_cfK]; exact decide_eq_false (str_lt_irrefl _)
  trans x y z h1 h2 := by
    rw [lt_cfK] at *
    simp only [decide_eq_true_eq] at *
    exact str_lt_trans h1 h2
  ntrans x y z h1 h2 := by
    rw [lt_cfK] at *
    simp only [decide_eq_false_iff_not] at *
    exact fun h => absurd (List.le_trans (List.not_lt.1 h2) (List.not_lt.1 h1)) (List.not_le.2 h)
theorem flat_listK {n : Nat} {ks : List (KC n)} : ∀ t, t < ks.length * (n + 1) → (flatK encK (n + 1) ks.toArray).toList[t]? = (encK (ks[t / (n + 1)]?.getD default))[t % (n + 1)]? := fun t ht => by
  have hs : t < (flatK encK (n + 1) ks.toArray).size := by rw [size_flatK]; simpa using ht
  have hi : t / (n + 1) < ks.length := Nat.div_lt_of_lt_mul (by rw [Nat.mul_comm]; exact ht)
  have h2 : t % (n + 1) < n + 1 := Nat.mod_lt _ (Nat.zero_lt_succ n)
  rw [Array.getElem?_toList, Array.getElem?_eq_getElem hs, ← getElem!_pos _ t hs, get_flatK _ _ _ _ (by simpa using ht)]
  rw [List.getElem?_eq_getElem hi]
  have e1 : ks.toArray[t / (n + 1)]! = ks[t / (n + 1)] := by simp [hi]
  rw [e1]
  have hl : t % (n + 1) < (encK ks[t / (n + 1)]).length := by rw [encK_len]; exact h2
  rw [getElem!_pos (encK ks[t / (n + 1)]) (t % (n + 1)) hl, Option.getD_some, List.getElem?_eq_getElem hl]
theorem flat_part {n : Nat} (ks : List (KC n)) {i : Nat} (h : i < ks.length) : ((flatK encK (n + 1) ks.toArray).toList.drop (i * (n + 1))).take (n + 1) = encK ks[i] := by
  apply List.ext_getElem?
  intro t
  rw [List.getElem?_take]
  by_cases ht : t < n + 1
  · have hlt : i * (n + 1) + t < ks.length * (n + 1) := by
      have : (i + 1) * (n + 1) ≤ ks.length * (n + 1) := Nat.mul_le_mul_right _ h
      rw [Nat.succ_mul] at this
      omega
    rw [if_pos ht, List.getElem?_drop, flat_listK _ hlt]
    have e1 : (i * (n + 1) + t) / (n + 1) = i := by rw [Nat.mul_comm, Nat.mul_add_div (Nat.zero_lt_succ n), Nat.div_eq_of_lt ht, Nat.add_zero]
    have e2 : (i * (n + 1) + t) % (n + 1) = t := by rw [Nat.mul_comm, Nat.mul_add_mod, Nat.mod_eq_of_lt ht]
    rw [e1, e2, List.getElem?_eq_getElem h, Option.getD_some]
  · rw [if_neg ht, List.getElem?_eq_none (by rw [encK_len]; omega)]
/-- A thing, and its cells. -/
def RepK (M : Nat → Nat → Prop) (w : World) (t : Ty) (x : Str × t.den) (c : KC t.sz) : Prop := c.1.1 = x.1 ∧ RepC M w t x.2 c.1.2
theorem els_split {M : Nat → Nat → Prop} {w : World} {t : Ty} : ∀ {xs : List (Str × t.den)} {cs : List Value}, cs.length = xs.length * (t.sz + 1) → Els M w (.pr .str t) xs cs → ∃ ks : List (KC t.sz), All2 (RepK M w t) xs ks ∧ cs = (flatK encK (t.sz + 1) ks.toArray).toList := by
  intro xs cs hl h
  have h1 : ∀ i (hi : i < xs.length), ∃ c : KC t.sz, RepK M w t xs[i] c ∧ (cs.drop (i * (t.sz + 1))).take (t.sz + 1) = encK c := fun i hi => by
    have h2 := h i hi
    have hsz : (Ty.pr .str t).sz = t.sz + 1 := by show 1 + t.sz = _; omega
    rw [hsz] at h2
    obtain ⟨c1, c2, e, h3, h4⟩ := h2
    rw [show c1 = [Value.string ⟨xs[i].1.toArray⟩] from h3] at e
    exact ⟨⟨(xs[i].1, c2), RepC.len t _ _ h4, RepC.one t _ _ h4⟩, ⟨rfl, h4⟩, e⟩
  let ks : List (KC t.sz) := (List.range xs.length).map fun i => if hi : i < xs.length then (h1 i hi).choose else default
  have hkl : ks.length = xs.length := by simp [ks]
  have hk : ∀ i (hi : i < xs.length), ks[i]'(by rw [hkl]; exact hi) = (h1 i hi).choose := fun i hi => by simp [ks, hi]
  refine ⟨ks, ?_, ?_⟩
  · have gen : ∀ (l : List (Str × t.den)) (m : List (KC t.sz)), l.length = m.length → (∀ i (hi : i < l.length) (hj : i < m.length), RepK M w t l[i] m[i]) → All2 (RepK M w t) l m := by
      intro l
      induction l with
      | nil => intro m hm _; cases m with | nil => trivial | cons _ _ => cases hm
      | cons a l ih =>
        intro m hm hr
        cases m with
        | nil => cases hm
        | cons b m => exact ⟨hr 0 (by simp) (by simp), ih m (by simpa using hm) fun i hi hj => hr (i + 1) (Nat.succ_lt_succ hi) (Nat.succ_lt_succ hj)⟩
    refine gen xs ks hkl.symm fun i hi hj => ?_
    rw [hk i hi]
    exact (h1 i hi).choose_spec.1
  · apply List.ext_getElem?
    intro u
    by_cases hu : u < xs.length * (t.sz + 1)
    · have hi : u / (t.sz + 1) < xs.length := Nat.div_lt_of_lt_mul (by rw [Nat.mul_comm]; exact hu)
      rw [flat_listK u (by rw [hkl]; exact hu), List.getElem?_eq_getElem (l := ks) (i := u / (t.sz + 1)) (by rw [hkl]; exact hi), Option.getD_some, hk _ hi, ← (h1 _ hi).choose_spec.2, List.getElem?_take, if_pos (Nat.mod_lt _ (Nat.zero_lt_succ _)), List.getElem?_drop]
      congr 1
      rw [Nat.mul_comm]
      exact (Nat.div_add_mod u (t.sz + 1)).symm
    · rw [List.getElem?_eq_none (by omega), List.getElem?_eq_none (by rw [Array.length_toList, size_flatK]; simp only [List.size_toArray]; rw [hkl]; omega)]
theorem els_join {M : Nat → Nat → Prop} {w : World} {t : Ty} {xs : List (Str × t.den)} {ks : List (KC t.sz)} (h : All2 (RepK M w t) xs ks) : Els M w (.pr .str t) xs (flatK encK (t.sz + 1) ks.toArray).toList := fun i hi => by
  have hsz : (Ty.pr .str t).sz = t.sz + 1 := by show 1 + t.sz = _; omega
  rw [hsz]
  have hik : i < ks.length := by rw [← h.len]; exact hi
  rw [flat_part ks hik]
  obtain ⟨c, hc, h1, h2⟩ := h.get (List.getElem?_eq_getElem hi)
  rw [List.getElem?_eq_getElem hik] at hc
  injection hc with hc
  rw [hc]
  exact ⟨[Value.string ⟨xs[i].1.toArray⟩], c.1.2, by unfold encK; rw [h1]; rfl, rfl, h2⟩
def sortK {α : Type} (key : α → Str) (xs : List α) : Option (List α) := if xs.length < 4611686018427387904 ∧ (xs.map key).Nodup then some (xs.mergeSort (leKey key)) else none
theorem sortK_sound {P : Program} {G : World → Prop} {B0 : Nat} {f g : FuncId} {e : TypeId} {t : Ty} (hcall : ∀ (args : Array Value) (w : World), (callFunc f args).run P w = .ok (.enter f args) w)
    (hB : ∀ (b cap : Nat) (d : Array (KC t.sz)) (w : World), HoldsK encK (t.sz + 1) w b 0 d → b < w.heap.size → d.size < 4611686018427387904 → Calls P f #[.slice (some ⟨b, 0, none⟩) d.size cap, .func (.func g) #[] #[]] w fun e w' =>
      e = .returned (.tuple #[]) ∧ ∃ d' m os, PermIn 0 d.size d d' ∧ SortedIn (ltOf cfK) 0 d.size d' ∧ w' = sortWorldK encK (t.sz + 1) w b 0 m d' os)
    (h0 : ∀ w, Calls P f #[.slice none 0 0, .func (.func g) #[] #[]] w fun e w' => e = .returned (.tuple #[]) ∧ w' = w) :
    Sound P G B0 f ⟨[.row 0, .v (.clo g .un)], [.row e (.pr .str t) true], [], [.row e (.pr .str t) true, .none], List (Str × t.den), fun z => ((), (z, ((), ()))), fun x y => sortK (fun p : Str × t.den => p.1) y.1⟩ := by
  have hsz : (Ty.pr .str t).sz = t.sz + 1 := by show 1 + t.sz = _; omega
  refine Sound.ofRowKept (ps := [.v (.clo g .un)]) (t := .pr .str t) (F := fun x xs => sortK (fun p : Str × t.den => p.1) xs) hcall (by rw [hsz]; omega) fun M w g' v0 vs x xs zs cs hG hMl hM hown hels hA hz => ?_
  match vs, hA with
  | [v1], hA =>
    obtain ⟨h1, _⟩ := hA
    have h3 := RepV.plain (t := .clo g .un) rfl h1
    obtain ⟨caps, h4, h5⟩ := h3
    injection h4 with h4
    have h6 : caps = #[] := by
      have : caps.toList = [] := h5
      exact Array.toList_eq_nil_iff.1 this
    subst h6
    rw [h4]
    change sortK (fun p : Str × t.den => p.1) xs = some zs at hz
    unfold sortK at hz
    split at hz
    case isFalse => cases hz
    rename_i hc
    obtain ⟨hbig, hnd⟩ := hc
    injection hz with hz
    have hl : cs.length = xs.length * (t.sz + 1) := by have := hown.1; rw [hsz] at this; exact this
    obtain ⟨ks, hks, hcs⟩ := els_split hl hels
    have hkl : ks.length = xs.length := hks.len.symm
    have hzl : zs.length = xs.length := by rw [← hz]; exact List.length_mergeSort _
    rcases hown.2 with ⟨e1, e2⟩ | ⟨b, cap, cur, e1, _, hg, hle, hmax, hszc, htk⟩
    · have hx0 : xs = [] := List.eq_nil_of_length_eq_zero e2
      subst hx0 e1
      refine (h0 w).mono fun e w' hp => ?_
      obtain ⟨rfl, rfl⟩ := hp
      have hz0 : zs = [] := List.eq_nil_of_length_eq_zero hzl
      subst hz0
      exact ⟨[], rfl, ExtX.refl _ _, ⟨by simp, .inl ⟨rfl, rfl⟩⟩, fun i h => absurd h (Nat.not_lt_zero _)⟩
    · subst e1
      rw [hsz] at hszc
      have htk' : cur.toList.take (xs.length * (t.sz + 1)) = (flatK encK (t.sz + 1) ks.toArray).toList := by
        rw [← hcs, ← htk]
        rw [hsz]
      have hb : b < w.heap.size := by
        apply Classical.byContradiction
        intro hn
        rw [Array.getElem?_eq_none (by omega)] at hg
        cases hg
      have hH : HoldsK encK (t.sz + 1) w b 0 ks.toArray := fun k hk => by
        have hk' : k < xs.length * (t.sz + 1) := by rw [size_flatK] at hk; simpa [hkl] using hk
        have h1 : cur.toList[k]? = some ((flatK encK (t.sz + 1) ks.toArray)[k]!) := by
          have := congrArg (fun l => l[k]?) htk'
          simp only [List.getElem?_take, hk', if_true, Array.getElem?_toList, Array.getElem?_eq_getElem hk] at this
          rw [getElem!_pos _ k hk]
          simpa using this
        refine ⟨?_, by unfold World.frozen?; rw [hg]; simp⟩
        rw [Nat.zero_add]
        unfold World.cell?
        rw [hg]
        simpa using h1
      have hcon := hB b cap ks.toArray w hH hb (by simpa [hkl] using hbig)
      rw [show ks.toArray.size = xs.length from by simp [hkl]] at hcon
      refine hcon.mono fun e w' hp => ?_
      obtain ⟨rfl, d', n, os, ⟨hps, _, hpp⟩, hso, rfl⟩ := hp
      have hps' : d'.size = xs.length := by rw [hps]; simp [hkl]
      have hrel : All2 (RepK M w t) zs d'.toList := by
        rw [← hz]
        refine sort_rel (key := fun p : Str × t.den => p.1) (key' := fun c : KC t.sz => c.1.1) hks (fun x c h => h.1) hnd ?_ ?_
        · have e1 : (d'.extract 0 xs.length) = d' := by rw [← hps']; exact Array.extract_size
          have e2 : (ks.toArray.extract 0 xs.length) = ks.toArray := by rw [show xs.length = ks.toArray.size from by simp [hkl]]; exact Array.extract_size
          rw [e1, e2] at hpp
          simpa using hpp
        · rw [List.pairwise_iff_getElem]
          intro i j hi hj hij
          have := hso i j (Nat.zero_le _) hij (by rw [Array.length_toList] at hj; rw [← hps']; exact hj)
          rw [lt_cfK] at this
          rw [Array.length_toList] at hi hj
          rw [getElem!_pos d' i hi, getElem!_pos d' j hj] at this
          simpa using this
      obtain ⟨dl, rfl⟩ : ∃ dl : List (KC t.sz), d' = dl.toArray := ⟨d'.toList, by simp⟩
      have hrel' : All2 (RepK M w t) zs dl := by simpa using hrel
      have hdl : dl.length = xs.length := by rw [← hrel'.len, hzl]
      refine ⟨(flatK encK (t.sz + 1) dl.toArray).toList, rfl, (sortW_ext id).mono (fun k hk => by simpa [Value.ownBlock] using hk), ⟨by rw [Array.length_toList, size_flatK, hsz]; simp [hdl, hzl], .inr ⟨b, cap, _, by rw [hzl], Nat.zero_le _, sortW_block id hg, by omega, hmax, ?_, ?_⟩⟩, els_join hrel'⟩
      · rw [putCells_size, hsz]; exact hszc
      · have hle' : (flatK encK (t.sz + 1) dl.toArray).toList.length ≤ cur.size := by
          rw [Array.length_toList, size_flatK, hszc]
          simp only [List.size_toArray]
          rw [hdl]
          exact Nat.mul_le_mul_right _ hle
        have h9 := putCells_take id (flatK encK (t.sz + 1) dl.toArray).toList cur hle'
        rw [Array.length_toList, size_flatK, Array.toArray_toList, List.map_id] at h9
        rw [hsz, hzl]
        simpa [hdl] using h9
end Go.Proofs.YthlkidohpiebiaaDoor


/-
  DERIVED: THE SHELF's CONTRACTS AT THIS DUMP, IN PLAIN WORDS (tools/lay-plain.mjs out of 'TrydShelfF.lean', which tools/lay-shelf.mjs wrote): THE SAME DECLARATIONS UNDER THE SAME NAMES: 'import', 'namespace', 'open', 'def', 'theorem' AND NOTHING ELSE: no command of the shelf's: FOR A HAND-IN. Each laying: the table of numbers ('.._ren') and one theorem, a field a fact of the dump's own or the kernel's comparison; each contract: ONE APPLICATION.
-/
namespace Go.Proofs
open Go.Shelf
def Tryd.sortF_ren : Go.Shelf.Ren := ⟨fun | 6 => 97 | 15 => 109 | 14 => 123 | 28 => 137 | 29 => 138 | 20 => 147 | 21 => 148 | 22 => 149 | 23 => 150 | 24 => 151 | 25 => 152 | 26 => 153 | 27 => 154 | 46 => 173 | 47 => 167 | 48 => 168 | 49 => 174 | 50 => 175 | 57 => 183 | n => n, fun | 22 => 28 | 24 => 34 | 25 => 120 | 3 => 3 | 39 => 113 | 0 => 0 | 53 => 156 | 55 => 112 | 4 => 4 | 46 => 149 | 45 => 148 | 50 => 153 | 5 => 5 | 9 => 9 | 66 => 173 | 70 => 177 | 76 => 187 | 77 => 188 | n => n, fun | n => n⟩
theorem Tryd.sortF : Go.Proofs.SlLaysF0.n6 Tryd.prog Tryd.sortF_ren := {
  mixed := by kernel_rfl
  f6 := ⟨Tryd.f97.name, by decide, Tryd.func97.trans (congrArg some (by kernel_rfl))⟩
  f14 := ⟨Tryd.f123.name, by decide, Tryd.func123.trans (congrArg some (by kernel_rfl))⟩
  f15 := Tryd.func109.trans (congrArg some (by kernel_rfl))
  f20 := ⟨Tryd.f147.name, by decide, Tryd.func147.trans (congrArg some (by kernel_rfl))⟩
  f21 := ⟨Tryd.f148.name, by decide, Tryd.func148.trans (congrArg some (by kernel_rfl))⟩
  f22 := ⟨Tryd.f149.name, by decide, Tryd.func149.trans (congrArg some (by kernel_rfl))⟩
  f23 := ⟨Tryd.f150.name, by decide, Tryd.func150.trans (congrArg some (by kernel_rfl))⟩
  f24 := ⟨Tryd.f151.name, by decide, Tryd.func151.trans (congrArg some (by kernel_rfl))⟩
  f25 := ⟨Tryd.f152.name, by decide, Tryd.func152.trans (congrArg some (by kernel_rfl))⟩
  f26 := ⟨Tryd.f153.name, by decide, Tryd.func153.trans (congrArg some (by kernel_rfl))⟩
  f27 := ⟨Tryd.f154.name, by decide, Tryd.func154.trans (congrArg some (by kernel_rfl))⟩
  f28 := Tryd.func137.trans (congrArg some (by kernel_rfl))
  f29 := Tryd.func138.trans (congrArg some (by kernel_rfl))
  f46 := ⟨Tryd.f173.name, by decide, Tryd.func173.trans (congrArg some (by kernel_rfl))⟩
  f47 := Tryd.func167.trans (congrArg some (by kernel_rfl))
  f48 := Tryd.func168.trans (congrArg some (by kernel_rfl))
  f49 := ⟨Tryd.f174.name, by decide, Tryd.func174.trans (congrArg some (by kernel_rfl))⟩
  f50 := ⟨Tryd.f175.name, by decide, Tryd.func175.trans (congrArg some (by kernel_rfl))⟩
  f57 := ⟨Tryd.f183.name, by decide, Tryd.func183.trans (congrArg some (by kernel_rfl))⟩
  t0 := Tryd.underlying0
  a0 := Tryd.isAgg0
  z0 := Tryd.sizeOf0
  v0 := Tryd.zeroValue0
  t3 := Tryd.underlying3
  a3 := Tryd.isAgg3
  z3 := Tryd.sizeOf3
  v3 := Tryd.zeroValue3
  t4 := Tryd.underlying4
  a4 := Tryd.isAgg4
  z4 := Tryd.sizeOf4
  v4 := Tryd.zeroValue4
  t5 := Tryd.underlying5
  a5 := Tryd.isAgg5
  z5 := Tryd.sizeOf5
  v5 := Tryd.zeroValue5
  t9 := Tryd.underlying9
  a9 := Tryd.isAgg9
  z9 := Tryd.sizeOf9
  v9 := Tryd.zeroValue9
  t22 := Tryd.underlying28
  a22 := Tryd.isAgg28
  z22 := Tryd.sizeOf28
  v22 := Tryd.zeroValue28
  t25 := Tryd.underlying120
  a25 := Tryd.isAgg120
  z25 := Tryd.sizeOf120
  v25 := Tryd.zeroValue120
  t39 := Tryd.underlying113
  a39 := Tryd.isAgg113
  z39 := Tryd.sizeOf113
  v39 := Tryd.zeroValue113
  t45 := Tryd.underlying148
  a45 := Tryd.isAgg148
  z45 := Tryd.sizeOf148
  v45 := Tryd.zeroValue148
  t46 := Tryd.underlying149
  a46 := Tryd.isAgg149
  z46 := Tryd.sizeOf149
  v46 := Tryd.zeroValue149
  t50 := Tryd.underlying153
  a50 := Tryd.isAgg153
  z50 := Tryd.sizeOf153
  v50 := Tryd.zeroValue153
  t53 := Tryd.underlying156
  a53 := Tryd.isAgg156
  z53 := Tryd.sizeOf156
  v53 := Tryd.zeroValue156
  t55 := Tryd.underlying112
  a55 := Tryd.isAgg112
  z55 := Tryd.sizeOf112
  v55 := Tryd.zeroValue112
  t66 := Tryd.underlying173
  a66 := Tryd.isAgg173
  z66 := Tryd.sizeOf173
  v66 := Tryd.zeroValue173
  t70 := Tryd.underlying177
  a70 := Tryd.isAgg177
  z70 := Tryd.sizeOf177
  v70 := Tryd.zeroValue177
  t76 := Tryd.underlying187
  a76 := Tryd.isAgg187
  z76 := Tryd.sizeOf187
  v76 := Tryd.zeroValue187
  t77 := Tryd.underlying188
  a77 := Tryd.isAgg188
  z77 := Tryd.sizeOf188
  v77 := Tryd.zeroValue188 }
end Go.Proofs


/- slices.SortFunc of files by their paths, out of the kit's contract: it turns a row of its caller's. -/
namespace Go.Proofs.YthlkidohpiebiaaDoor
set_option linter.unusedVariables false
set_option linter.unusedSimpArgs false
open Go Go.RowKit Go.Shelf Go.Sort
theorem compare_cf : ∀ a b : Str, Lib.compareBytes a b = if Op.bytesLess a b = true then -1 else if a = b then 0 else 1
  | [], [] => by simp [Lib.compareBytes, Op.bytesLess]
  | [], _ :: _ => by simp [Lib.compareBytes, Op.bytesLess]
  | _ :: _, [] => by simp [Lib.compareBytes, Op.bytesLess]
  | a :: x, b :: y => by
    rw [Lib.compareBytes, compare_cf x y, Op.bytesLess]
    by_cases h1 : a < b
    · simp [h1]
    · by_cases h2 : b < a
      · have : a ≠ b := fun e => by subst e; exact h1 h2
        simp [h1, h2, this]
      · have e : a = b := by
          have h3 := UInt8.le_antisymm (UInt8.not_lt.1 h2) (UInt8.not_lt.1 h1)
          exact h3
        subst e
        simp
theorem sorted1_calls (x y : KC 2) (W : World) : Calls Tryd.prog 98 #[.agg (encK x).toArray, .agg (encK y).toArray] W fun e w' => e = .returned (.int .i64 (cfK x y)) ∧ ∃ q os', w' = Sort.grow (W.drewN q) os' := by
  obtain ⟨⟨xs, xc⟩, hx1, hx2⟩ := x
  obtain ⟨⟨ys, yc⟩, hy1, hy2⟩ := y
  match xc, hx1, yc, hy1 with
  | [x1, x2], _, [y1, y2], _ =>
    have e1 : (Value.agg #[.string ⟨xs.toArray⟩, x1, x2]).cells = #[.string ⟨xs.toArray⟩, x1, x2] := rfl
    unfold cfK encK
    dsimp only
    rw [← compare_cf]
    go_enter Tryd.func98, Tryd.ntmps98
    go_wp2_with fail
    refine (Tryd.strings_Compare _ _ _).mono ?_
    rintro e w1 ⟨rfl, rfl⟩
    go_wp2_with fail
    all_goals go_ret
    all_goals exact ⟨by simp_all, 0, _, by rw [Sort.alloc_eq_grow, Sort.alloc_eq_grow, Sort.grow_grow]; rfl⟩
theorem aggF : ∀ w, (isAgg 34).run Tryd.prog w = .ok true w := by
  intro w; kernel_rfl
theorem sizeF : ∀ w, (Go.sizeOf 34).run Tryd.prog w = .ok 3 w := by
  intro w; kernel_rfl
def slices_SortFunc_file (_u : Unit) (xs : List (Str × Bool × List UInt8)) : Option (List (Str × Bool × List UInt8)) := sortK (fun p : Str × Bool × List UInt8 => p.1) xs
theorem slices_SortFunc_file_sound : Sound Tryd.prog GW B0G 97 ⟨[.row 0, .v (.clo 98 .un)], [.row 34 (.pr .str (.pr .bool (.sl .u8))) true], [], [.row 34 (.pr .str (.pr .bool (.sl .u8))) true, .none], List (Str × Bool × List UInt8), fun z => ((), (z, ((), ()))), fun x y => slices_SortFunc_file x.2.1 y.1⟩ :=
  sortK_sound (t := .pr .bool (.sl .u8)) Tryd.call97 (fun b cap d w hH hb hs => by
    have eg : ∀ args w, (callFunc 98 args).run Tryd.prog w = .ok (.enter 98 args) w := Tryd.call98
    exact AnyQ.slices_SortFunc Tryd.sortF 3 aggF sizeF encK encK_len encK_one cfK swo_cfK 98 #[] b 0 cap d w eg (fun _ _ _ _ x y => sorted1_calls x y _) hH hb hs)
    (fun w => AnyF.slices_SortFunc_none Tryd.sortF none 0 _ w)
end Go.Proofs.YthlkidohpiebiaaDoor



/- What functions of the program compute, as plain functions (printed). -/
namespace Go.Proofs.YthlkidohpiebiaaDoor
open Go Go.RowKit
set_option maxRecDepth 100000
set_option linter.unusedVariables false
noncomputable section
def blob_sorted_2 (N : Nat) (w0 : List (Str × Bool × List UInt8)) : Option (List (Str × Bool × List UInt8) × Int) :=
  bnd (slices_SortFunc_file () w0) fun t6 =>
  bnd (blob_CheckFiles N t6) fun t8 =>
  br (t8 != (0 : Int))
    (some (([] : List (Str × Bool × List UInt8)), t8))
    (some (t6, (0 : Int)))
abbrev blob_sorted_2_sg (f : SV [.row 0] → BV [.row 34 (.pr .str (.pr .bool (.sl .u8))) true] → Option (List (Str × Bool × List UInt8) × Int)) : AF := { ps := [.row 0], bs := [.row 34 (.pr .str (.pr .bool (.sl .u8))) true], rs := [.v (.sl (.pr .str (.pr .bool (.sl .u8)))), .v (.int .i64)], cs := [.none], R := List (Str × Bool × List UInt8) × Int, out := fun z => ((z.1, z.2, ()), ((), ())), f := f }
abbrev blob_sorted_2_pk : SV [.v (.sl (.pr .str (.pr .bool (.sl .u8)))), .v (.int .i64)] → BV [.none] → (List (Str × Bool × List UInt8) × Int) := fun x _ => (x.1, x.2.1)
def blob_sorted_2_fn (N : Nat) : FuncId → Option Tmp → Option AF := fun f _ =>
  match f with
    | 35 => some (blob_CheckFiles_sg fun x _ => blob_CheckFiles N x.1)
    | 97 => some (slices_SortFunc_file_sg fun x y => slices_SortFunc_file x.2.1 y.1)
    | _ => none
theorem blob_sorted_2_fn_ok (N : Nat) : ∀ f q F, blob_sorted_2_fn N f q = some F → Sound Tryd.prog GW B0G f F := by
  intro f q F h
  unfold blob_sorted_2_fn at h
  split at h
  · cases h; exact blob_CheckFiles_sound N
  · cases h; exact slices_SortFunc_file_sound
  · cases h
def blob_sorted_2_h : Nat → Hint := fun i =>
  match i with
  | _ => ⟨[], [], [], [], [], []⟩
abbrev blob_sorted_2_E (N : Nat) : Env := mkE blob_sorted_2_h (blob_sorted_2_fn N) (fun _ => false) (fun _ => false)
noncomputable def blob_sorted_2_LP (N : Nat) : Nat → Code → St → (Ex → St → Option (List (Str × Bool × List UInt8) × Int)) → Option (List (Str × Bool × List UInt8) × Int) := fun i c =>
  match i with
  | i => fun st k => iter (blob_sorted_2_h i) (exec (blob_sorted_2_E N) N c i) N st k
theorem blob_sorted_2_core (N : Nat) (x : SV [.row 0]) (y : BV [.row 34 (.pr .str (.pr .bool (.sl .u8))) true]) : runL (blob_sorted_2_E N) Tryd.f63 (blob_sorted_2_sg fun _ y => blob_sorted_2 N y.1) blob_sorted_2_pk (blob_sorted_2_LP N) x y = blob_sorted_2 N y.1 := by kernel_rfl
theorem blob_sorted_2_sound (N : Nat) : Sound Tryd.prog GW B0G 63 (blob_sorted_2_sg fun _ y => blob_sorted_2 N y.1) :=
  runD_sound (mkE_ok blob_sorted_2_h (blob_sorted_2_fn N) _ _ (blob_sorted_2_fn_ok N)) Tryd.func63 rfl Tryd.call63 (blob_sorted_2_sg fun _ y => blob_sorted_2 N y.1) blob_sorted_2_pk (fun _ _ => rfl) N (fun x y _ h => ((runL_eq (blob_sorted_2_E N) N Tryd.f63 (blob_sorted_2_sg fun _ y => blob_sorted_2 N y.1) blob_sorted_2_pk (blob_sorted_2_LP N) (show LoopsOk (blob_sorted_2_LP N) (blob_sorted_2_E N) N (resD (blob_sorted_2_E N) Tryd.f63 (blob_sorted_2_sg fun _ y => blob_sorted_2 N y.1) blob_sorted_2_pk) [] from trivial) x y).trans (blob_sorted_2_core N x y)).trans h)
def blob_Put_L0T (_N : Nat) (x1 : Str) (c32 : Int) (t31 : List (Str × Bool × List UInt8)) (k0 : (List (Str × Bool × List UInt8)) → Option (List (Str × Bool × List UInt8) × Int)) (self : Int → (List (Str × Bool × List UInt8)) → Option (List (Str × Bool × List UInt8) × Int)) (s33 : Int) (w102700 : List (Str × Bool × List UInt8)) : Option (List (Str × Bool × List UInt8) × Int) :=
  br (decide (s33 < c32))
    (br (decide (0 ≤ s33 ∧ s33 < (t31.length : Int)))
      (bnd (geti t31 s33) fun t36 =>
      br (decide (x1.length + ([47] : Str).length ≤ 9223372036854775807))
        (br (decide ((x1 ++ ([47] : Str)).length + t36.1.length ≤ 9223372036854775807))
          (br (decide ((w102700.length + [((x1 ++ ([47] : Str)) ++ t36.1, t36.2)].length) * (24 * Ty.sz (.pr .str (.pr .bool (.sl .u8)))) ≤ 140737488355328))
            (self (IntKind.i64.wrap (s33 + (1 : Int))) (w102700 ++ [((x1 ++ ([47] : Str)) ++ t36.1, t36.2)]))
            none)
          none)
        none)
      none)
    (k0 w102700)
def blob_Put_L0 (N : Nat) (x1 : Str) (c32 : Int) (t31 : List (Str × Bool × List UInt8)) (k0 : (List (Str × Bool × List UInt8)) → Option (List (Str × Bool × List UInt8) × Int)) : Nat → Int → (List (Str × Bool × List UInt8)) → Option (List (Str × Bool × List UInt8) × Int)
  | 0, _, _ => none
  | n + 1, s33, w102700 => blob_Put_L0T N x1 c32 t31 k0 (blob_Put_L0 N x1 c32 t31 k0 n) s33 w102700
def blob_Put (N : Nat) (x0 : List (Str × Bool × List UInt8)) (x1 : Str) (x2 : List (Str × Bool × List UInt8)) : Option (List (Str × Bool × List UInt8) × Int) :=
  bnd (blob_CheckFiles N x0) fun t14 =>
  br (t14 != (0 : Int))
    (some (([] : List (Str × Bool × List UInt8)), t14))
    (bnd (blob_CheckFiles N x2) fun t19 =>
    br (t19 != (0 : Int))
      (some (([] : List (Str × Bool × List UInt8)), t19))
      (bnd (blob_IsPath N x1) fun t24 =>
      br (!t24)
        (some (([] : List (Str × Bool × List UInt8)), (3 : Int)))
        (bnd (blob_Own N x0) fun t27 =>
        bnd (slices_DeleteFunc_api_File N (x1, ()) t27) fun t29 =>
        bnd (blob_Own N x2) fun t31 =>
        blob_Put_L0 N x1 (t31.length : Int) t31 (fun o0_w102700 =>
            bnd (blob_sorted_2 N o0_w102700) fun t49 =>
            some t49) N (0 : Int) t29)))
abbrev blob_Put_sg (f : SV [.v (.sl (.pr .str (.pr .bool (.sl .u8)))), .v .str, .v (.sl (.pr .str (.pr .bool (.sl .u8))))] → BV [] → Option (List (Str × Bool × List UInt8) × Int)) : AF := { ps := [.v (.sl (.pr .str (.pr .bool (.sl .u8)))), .v .str, .v (.sl (.pr .str (.pr .bool (.sl .u8))))], bs := [], rs := [.v (.sl (.pr .str (.pr .bool (.sl .u8)))), .v (.int .i64)], cs := [], R := List (Str × Bool × List UInt8) × Int, out := fun z => ((z.1, z.2, ()), ()), f := f }
abbrev blob_Put_pk : SV [.v (.sl (.pr .str (.pr .bool (.sl .u8)))), .v (.int .i64)] → BV [] → (List (Str × Bool × List UInt8) × Int) := fun x _ => (x.1, x.2.1)
def blob_Put_fn (N : Nat) : FuncId → Option Tmp → Option AF := fun f _ =>
  match f with
    | 35 => some (blob_CheckFiles_sg fun x _ => blob_CheckFiles N x.1)
    | 38 => some (blob_IsPath_sg fun x _ => blob_IsPath N x.1)
    | 58 => some (blob_Own_sg fun x _ => blob_Own N x.1)
    | 61 => some (slices_DeleteFunc_api_File_sg fun x y => slices_DeleteFunc_api_File N x.2.1 y.1)
    | 63 => some (blob_sorted_2_sg fun _ y => blob_sorted_2 N y.1)
    | 62 => some (noneAF [.v (.ptr .str)])
    | _ => none
theorem blob_Put_fn_ok (N : Nat) : ∀ f q F, blob_Put_fn N f q = some F → Sound Tryd.prog GW B0G f F := by
  intro f q F h
  unfold blob_Put_fn at h
  split at h
  · cases h; exact blob_CheckFiles_sound N
  · cases h; exact blob_IsPath_sound N
  · cases h; exact blob_Own_sound N
  · cases h; exact slices_DeleteFunc_api_File_sound N
  · cases h; exact blob_sorted_2_sound N
  · cases h; exact noneAF_sound Tryd.call62 _
  · cases h
def blob_Put_h : Nat → Hint := fun i =>
  match i with
  | 0 => ⟨[], [4, 10, 31, 32, 33], [102700, 103100], [10], [102700], []⟩
  | _ => ⟨[], [], [], [], [], []⟩
abbrev blob_Put_E (N : Nat) : Env := mkE blob_Put_h (blob_Put_fn N) (fun _ => false) (fun _ => false)
abbrev blob_Put_L0_fs : List (Nat × Sl) := [(4, .at_ .str), (10, .row 102700), (31, .row 103100), (32, .v (.int .i64)), (33, .v (.int .i64))]
abbrev blob_Put_L0_bs : List (Nat × Sb) := [(102700, .row 34 (.pr .str (.pr .bool (.sl .u8))) true), (103100, .row 34 (.pr .str (.pr .bool (.sl .u8))) true)]
def blob_Put_L0_hd (x1 : Str) (c32 : Int) (t31 : List (Str × Bool × List UInt8)) (s33 : Int) (w102700 : List (Str × Bool × List UInt8)) : St := ⟨52, [(4, .at_ .str x1), (10, .row 102700), (31, .row 103100), (32, .v (.int .i64) c32), (33, .v (.int .i64) s33)], [(102700, .row 34 (.pr .str (.pr .bool (.sl .u8))) true w102700), (103100, .row 34 (.pr .str (.pr .bool (.sl .u8))) true t31)]⟩
def blob_Put_L0_tl0 (_x1 : Str) (_c32 : Int) (_t31 : List (Str × Bool × List UInt8)) (o0_w102700 : List (Str × Bool × List UInt8)) : St := ⟨52, [(10, .row 102700)], [(102700, .row 34 (.pr .str (.pr .bool (.sl .u8))) true o0_w102700)]⟩
def blob_Put_L0_G (N : Nat) (x1 : Str) (c32 : Int) (t31 : List (Str × Bool × List UInt8)) (s33 : Int) (w102700 : List (Str × Bool × List UInt8)) (k : Ex → St → Option (List (Str × Bool × List UInt8) × Int)) : Option (List (Str × Bool × List UInt8) × Int) :=
  blob_Put_L0 N x1 c32 t31 (fun o0_w102700 => k (.exit 0) (blob_Put_L0_tl0 x1 c32 t31 o0_w102700)) N s33 w102700
abbrev blob_Put_L0_F (N : Nat) : FV blob_Put_L0_fs → HV blob_Put_L0_bs → (Ex → St → Option (List (Str × Bool × List UInt8) × Int)) → Option (List (Str × Bool × List UInt8) × Int) := fun x y k => blob_Put_L0_G N x.1 x.2.2.2.1 y.2.1 x.2.2.2.2.1 y.1 k
noncomputable def blob_Put_LP (N : Nat) : Nat → Code → St → (Ex → St → Option (List (Str × Bool × List UInt8) × Int)) → Option (List (Str × Bool × List UInt8) × Int) := fun i c =>
  match i with
  | 0 => (LPc 52 blob_Put_L0_fs blob_Put_L0_bs (blob_Put_L0_F N) (fun st k => iter (blob_Put_h 0) (exec (blob_Put_E N) N c 0) N st k))
  | i => fun st k => iter (blob_Put_h i) (exec (blob_Put_E N) N c i) N st k
theorem blob_Put_L0_step (N : Nat) (x1 : Str) (c32 : Int) (t31 : List (Str × Bool × List UInt8)) (KX : Nat → St → Option (List (Str × Bool × List UInt8) × Int)) (I : St → Option (List (Str × Bool × List UInt8) × Int)) (s33 : Int) (w102700 : List (Str × Bool × List UInt8)) :
    execL (blob_Put_LP N) (blob_Put_E N) (cAt (bodyOf Tryd.f28) [true, true, true, true, true, false, true, false, false]) 0 (blob_Put_L0_hd x1 c32 t31 s33 w102700) (roundK (blob_Put_h 0) I KX (resD (blob_Put_E N) Tryd.f28 (blob_Put_sg fun x _ => blob_Put N x.1 x.2.1 x.2.2.1) blob_Put_pk)) = blob_Put_L0T N x1 c32 t31 (fun o0_w102700 => KX 0 (blob_Put_L0_tl0 x1 c32 t31 o0_w102700)) (fun s33 w102700 => I (blob_Put_L0_hd x1 c32 t31 s33 w102700)) s33 w102700 := by kernel_rfl
theorem blob_Put_L0_ok (N : Nat) : ∀ x y k, (∀ st, k .ret st = (resD (blob_Put_E N) Tryd.f28 (blob_Put_sg fun x _ => blob_Put N x.1 x.2.1 x.2.2.1) blob_Put_pk) st) → iter (blob_Put_h 0) (exec (blob_Put_E N) N (cAt (bodyOf Tryd.f28) [true, true, true, true, true, false, true, false, false]) 0) N ⟨52, unF blob_Put_L0_fs x, unH blob_Put_L0_bs y⟩ k = blob_Put_L0_F N x y k := fun x y k hk =>
  iter_link (S := (Int) × (List (Str × Bool × List UInt8)) × Unit) (blob_Put_h 0) _ (execL (blob_Put_LP N) (blob_Put_E N) (cAt (bodyOf Tryd.f28) [true, true, true, true, true, false, true, false, false]) 0) (resD (blob_Put_E N) Tryd.f28 (blob_Put_sg fun x _ => blob_Put N x.1 x.2.1 x.2.2.1) blob_Put_pk) (fun st k hk => execL_eq _ _ N _ (cAt (bodyOf Tryd.f28) [true, true, true, true, true, false, true, false, false]) 0 (show LoopsOk (blob_Put_LP N) (blob_Put_E N) N (resD (blob_Put_E N) Tryd.f28 (blob_Put_sg fun x _ => blob_Put N x.1 x.2.1 x.2.2.1) blob_Put_pk) [] from trivial) st k hk) (fun s => blob_Put_L0_hd x.1 x.2.2.2.1 y.2.1 s.1 s.2.1) k hk
    (fun self s => blob_Put_L0T N x.1 x.2.2.2.1 y.2.1 (fun o0_w102700 => k (.exit 0) (blob_Put_L0_tl0 x.1 x.2.2.2.1 y.2.1 o0_w102700)) (fun s33 w102700 => self (s33, w102700, ())) s.1 s.2.1) (fun n s => blob_Put_L0 N x.1 x.2.2.2.1 y.2.1 (fun o0_w102700 => k (.exit 0) (blob_Put_L0_tl0 x.1 x.2.2.2.1 y.2.1 o0_w102700)) n s.1 s.2.1) (fun _ => rfl) (fun _ _ => rfl)
    (fun I s => blob_Put_L0_step N x.1 x.2.2.2.1 y.2.1 (fun j => k (.exit j)) I s.1 s.2.1) N (x.2.2.2.2.1, y.1, ())
theorem blob_Put_lp0 (N : Nat) : ∀ st k, (∀ st, k .ret st = (resD (blob_Put_E N) Tryd.f28 (blob_Put_sg fun x _ => blob_Put N x.1 x.2.1 x.2.2.1) blob_Put_pk) st) → blob_Put_LP N 0 (cAt (bodyOf Tryd.f28) [true, true, true, true, true, false, true, false, false]) st k = iter (Env.hint (blob_Put_E N) 0) (exec (blob_Put_E N) N (cAt (bodyOf Tryd.f28) [true, true, true, true, true, false, true, false, false]) 0) N st k := fun st k hk => LPc_eq 52 blob_Put_L0_fs blob_Put_L0_bs _ _ (resD (blob_Put_E N) Tryd.f28 (blob_Put_sg fun x _ => blob_Put N x.1 x.2.1 x.2.2.1) blob_Put_pk) (blob_Put_L0_ok N) _ st k hk (rfl)
theorem blob_Put_core (N : Nat) (x : SV [.v (.sl (.pr .str (.pr .bool (.sl .u8)))), .v .str, .v (.sl (.pr .str (.pr .bool (.sl .u8))))]) (y : BV []) : runL (blob_Put_E N) Tryd.f28 (blob_Put_sg fun x _ => blob_Put N x.1 x.2.1 x.2.2.1) blob_Put_pk (blob_Put_LP N) x y = blob_Put N x.1 x.2.1 x.2.2.1 := by kernel_rfl
theorem blob_Put_sound (N : Nat) : Sound Tryd.prog GW B0G 28 (blob_Put_sg fun x _ => blob_Put N x.1 x.2.1 x.2.2.1) :=
  runD_sound (mkE_ok blob_Put_h (blob_Put_fn N) _ _ (blob_Put_fn_ok N)) Tryd.func28 rfl Tryd.call28 (blob_Put_sg fun x _ => blob_Put N x.1 x.2.1 x.2.2.1) blob_Put_pk (fun _ _ => rfl) N (fun x y _ h => ((runL_eq (blob_Put_E N) N Tryd.f28 (blob_Put_sg fun x _ => blob_Put N x.1 x.2.1 x.2.2.1) blob_Put_pk (blob_Put_LP N) (show LoopsOk (blob_Put_LP N) (blob_Put_E N) N (resD (blob_Put_E N) Tryd.f28 (blob_Put_sg fun x _ => blob_Put N x.1 x.2.1 x.2.2.1) blob_Put_pk) [(0, (cAt (bodyOf Tryd.f28) [true, true, true, true, true, false, true, false, false]))] from ⟨blob_Put_lp0 N, trivial⟩) x y).trans (blob_Put_core N x y)).trans h)
def law1_BlobPutIsThere_L0T (N : Nat) (x1 : Str) (c7 : List (Str × Bool × List UInt8)) (k0 : (List (Str × Bool × List UInt8)) → Option Bool) (self : Int → (List (Str × Bool × List UInt8)) → Option Bool) (s12 : Int) (w1010 : List (Str × Bool × List UInt8)) : Option Bool :=
  br (decide (s12 < (c7.length : Int)))
    (bnd (geti c7 s12) fun t51 =>
    bnd (ref1_Lies N t51.1 x1) fun t55 =>
    br (!t55)
      (bnd (geti c7 s12) fun t60 =>
      br (decide ((w1010.length + [t60].length) * (24 * Ty.sz (.pr .str (.pr .bool (.sl .u8)))) ≤ 140737488355328))
        (self (IntKind.i64.wrap (s12 + (1 : Int))) (w1010 ++ [t60]))
        none)
      (self (IntKind.i64.wrap (s12 + (1 : Int))) w1010))
    (k0 w1010)
def law1_BlobPutIsThere_L0 (N : Nat) (x1 : Str) (c7 : List (Str × Bool × List UInt8)) (k0 : (List (Str × Bool × List UInt8)) → Option Bool) : Nat → Int → (List (Str × Bool × List UInt8)) → Option Bool
  | 0, _, _ => none
  | n + 1, s12, w1010 => law1_BlobPutIsThere_L0T N x1 c7 k0 (law1_BlobPutIsThere_L0 N x1 c7 k0 n) s12 w1010
def law1_BlobPutIsThere_L1T (N : Nat) (x0 : List (Str × Bool × List UInt8)) (x1 : Str) (k2 : (List (Str × Bool × List UInt8)) → Option Bool) (self : Int → (List (Str × Bool × List UInt8)) → Option Bool) (s13 : Int) (w1011 : List (Str × Bool × List UInt8)) : Option Bool :=
  br (decide (s13 < (x0.length : Int)))
    (bnd (geti x0 s13) fun t72 =>
    bnd (ref1_Lies N t72.1 x1) fun t76 =>
    br (!t76)
      (bnd (geti x0 s13) fun t81 =>
      br (!(t81.1 == x1))
        (bnd (geti x0 s13) fun t90 =>
        br (decide ((w1011.length + [t90].length) * (24 * Ty.sz (.pr .str (.pr .bool (.sl .u8)))) ≤ 140737488355328))
          (self (IntKind.i64.wrap (s13 + (1 : Int))) (w1011 ++ [t90]))
          none)
        (self (IntKind.i64.wrap (s13 + (1 : Int))) w1011))
      (self (IntKind.i64.wrap (s13 + (1 : Int))) w1011))
    (k2 w1011)
def law1_BlobPutIsThere_L1 (N : Nat) (x0 : List (Str × Bool × List UInt8)) (x1 : Str) (k2 : (List (Str × Bool × List UInt8)) → Option Bool) : Nat → Int → (List (Str × Bool × List UInt8)) → Option Bool
  | 0, _, _ => none
  | n + 1, s13, w1011 => law1_BlobPutIsThere_L1T N x0 x1 k2 (law1_BlobPutIsThere_L1 N x0 x1 k2 n) s13 w1011
def law1_BlobPutIsThere (N : Nat) (x0 : List (Str × Bool × List UInt8)) (x1 : Str) (x2 : List (Str × Bool × List UInt8)) : Option Bool :=
  bnd (blob_Put N x0 x1 x2) fun t18 =>
  br (t18.2 != (0 : Int))
    (br ((t18.1.length : Int) == (0 : Int))
      (bnd (law1_awake N) fun t27 =>
      some t27)
      (some false))
    (bnd (blob_At N t18.1 x1) fun t32 =>
    br (t32.1 != (0 : Int))
      (some false)
      (bnd (ref1_SameFiles N t32.2 x2) fun t40 =>
      br (!t40)
        (some false)
        (law1_BlobPutIsThere_L0 N x1 t18.1 (fun o0_w1010 =>
            law1_BlobPutIsThere_L1 N x0 x1 (fun o1_w1011 =>
                bnd (ref1_SameFiles N o0_w1010 o1_w1011) fun t96 =>
                br (t96)
                  (bnd (law1_awake N) fun t98 =>
                  some t98)
                  (some false)) N (0 : Int) ([] : List (Str × Bool × List UInt8))) N (0 : Int) ([] : List (Str × Bool × List UInt8)))))
abbrev law1_BlobPutIsThere_sg (f : SV [.v (.sl (.pr .str (.pr .bool (.sl .u8)))), .v .str, .v (.sl (.pr .str (.pr .bool (.sl .u8))))] → BV [] → Option (Bool)) : AF := { ps := [.v (.sl (.pr .str (.pr .bool (.sl .u8)))), .v .str, .v (.sl (.pr .str (.pr .bool (.sl .u8))))], bs := [], rs := [.v .bool], cs := [], R := Bool, out := fun z => ((z, ()), ()), f := f }
abbrev law1_BlobPutIsThere_pk : SV [.v .bool] → BV [] → Bool := fun x _ => x.1
def law1_BlobPutIsThere_fn (N : Nat) : FuncId → Option Tmp → Option AF := fun f _ =>
  match f with
    | 18 => some (law1_awake_sg fun _ _ => law1_awake N)
    | 23 => some (ref1_SameFiles_sg fun x _ => ref1_SameFiles N x.1 x.2.1)
    | 26 => some (blob_At_sg fun x _ => blob_At N x.1 x.2.1)
    | 28 => some (blob_Put_sg fun x _ => blob_Put N x.1 x.2.1 x.2.2.1)
    | 30 => some (ref1_Lies_sg fun x _ => ref1_Lies N x.1 x.2.1)
    | _ => none
theorem law1_BlobPutIsThere_fn_ok (N : Nat) : ∀ f q F, law1_BlobPutIsThere_fn N f q = some F → Sound Tryd.prog GW B0G f F := by
  intro f q F h
  unfold law1_BlobPutIsThere_fn at h
  split at h
  · cases h; exact law1_awake_sound N
  · cases h; exact ref1_SameFiles_sound N
  · cases h; exact blob_At_sound N
  · cases h; exact blob_Put_sound N
  · cases h; exact ref1_Lies_sound N
  · cases h
def law1_BlobPutIsThere_h : Nat → Hint := fun i =>
  match i with
  | 0 => ⟨[], [0, 1, 7, 10, 11, 12], [1010, 1011], [0, 1, 10, 11], [1010, 1011], []⟩
  | 2 => ⟨[], [0, 1, 10, 11, 13], [1010, 1011], [10, 11], [1010, 1011], []⟩
  | _ => ⟨[], [], [], [], [], []⟩
abbrev law1_BlobPutIsThere_E (N : Nat) : Env := mkE law1_BlobPutIsThere_h (law1_BlobPutIsThere_fn N) (fun _ => false) (fun _ => false)
abbrev law1_BlobPutIsThere_L0_fs : List (Nat × Sl) := [(0, .v (.sl (.pr .str (.pr .bool (.sl .u8))))), (1, .v .str), (7, .v (.sl (.pr .str (.pr .bool (.sl .u8))))), (10, .row 1010), (11, .row 1011), (12, .v (.int .i64))]
abbrev law1_BlobPutIsThere_L0_bs : List (Nat × Sb) := [(1010, .row 34 (.pr .str (.pr .bool (.sl .u8))) false), (1011, .row 34 (.pr .str (.pr .bool (.sl .u8))) false)]
def law1_BlobPutIsThere_L0_hd (x0 : List (Str × Bool × List UInt8)) (x1 : Str) (c7 : List (Str × Bool × List UInt8)) (cw1011 : List (Str × Bool × List UInt8)) (s12 : Int) (w1010 : List (Str × Bool × List UInt8)) : St := ⟨100, [(0, .v (.sl (.pr .str (.pr .bool (.sl .u8)))) x0), (1, .v .str x1), (7, .v (.sl (.pr .str (.pr .bool (.sl .u8)))) c7), (10, .row 1010), (11, .row 1011), (12, .v (.int .i64) s12)], [(1010, .row 34 (.pr .str (.pr .bool (.sl .u8))) false w1010), (1011, .row 34 (.pr .str (.pr .bool (.sl .u8))) false cw1011)]⟩
def law1_BlobPutIsThere_L0_tl0 (x0 : List (Str × Bool × List UInt8)) (x1 : Str) (_c7 : List (Str × Bool × List UInt8)) (cw1011 : List (Str × Bool × List UInt8)) (o0_w1010 : List (Str × Bool × List UInt8)) : St := ⟨100, [(0, .v (.sl (.pr .str (.pr .bool (.sl .u8)))) x0), (1, .v .str x1), (10, .row 1010), (11, .row 1011)], [(1010, .row 34 (.pr .str (.pr .bool (.sl .u8))) false o0_w1010), (1011, .row 34 (.pr .str (.pr .bool (.sl .u8))) false cw1011)]⟩
def law1_BlobPutIsThere_L0_G (N : Nat) (x0 : List (Str × Bool × List UInt8)) (x1 : Str) (c7 : List (Str × Bool × List UInt8)) (cw1011 : List (Str × Bool × List UInt8)) (s12 : Int) (w1010 : List (Str × Bool × List UInt8)) (k : Ex → St → Option Bool) : Option Bool :=
  law1_BlobPutIsThere_L0 N x1 c7 (fun o0_w1010 => k (.exit 0) (law1_BlobPutIsThere_L0_tl0 x0 x1 c7 cw1011 o0_w1010)) N s12 w1010
abbrev law1_BlobPutIsThere_L0_F (N : Nat) : FV law1_BlobPutIsThere_L0_fs → HV law1_BlobPutIsThere_L0_bs → (Ex → St → Option Bool) → Option Bool := fun x y k => law1_BlobPutIsThere_L0_G N x.1 x.2.1 x.2.2.1 y.2.1 x.2.2.2.2.2.1 y.1 k
abbrev law1_BlobPutIsThere_L1_fs : List (Nat × Sl) := [(0, .v (.sl (.pr .str (.pr .bool (.sl .u8))))), (1, .v .str), (10, .row 1010), (11, .row 1011), (13, .v (.int .i64))]
abbrev law1_BlobPutIsThere_L1_bs : List (Nat × Sb) := [(1010, .row 34 (.pr .str (.pr .bool (.sl .u8))) false), (1011, .row 34 (.pr .str (.pr .bool (.sl .u8))) false)]
def law1_BlobPutIsThere_L1_hd (x0 : List (Str × Bool × List UInt8)) (x1 : Str) (o0_w1010 : List (Str × Bool × List UInt8)) (s13 : Int) (w1011 : List (Str × Bool × List UInt8)) : St := ⟨100, [(0, .v (.sl (.pr .str (.pr .bool (.sl .u8)))) x0), (1, .v .str x1), (10, .row 1010), (11, .row 1011), (13, .v (.int .i64) s13)], [(1010, .row 34 (.pr .str (.pr .bool (.sl .u8))) false o0_w1010), (1011, .row 34 (.pr .str (.pr .bool (.sl .u8))) false w1011)]⟩
def law1_BlobPutIsThere_L1_tl2 (_x0 : List (Str × Bool × List UInt8)) (_x1 : Str) (o0_w1010 : List (Str × Bool × List UInt8)) (o1_w1011 : List (Str × Bool × List UInt8)) : St := ⟨100, [(10, .row 1010), (11, .row 1011)], [(1010, .row 34 (.pr .str (.pr .bool (.sl .u8))) false o0_w1010), (1011, .row 34 (.pr .str (.pr .bool (.sl .u8))) false o1_w1011)]⟩
def law1_BlobPutIsThere_L1_G (N : Nat) (x0 : List (Str × Bool × List UInt8)) (x1 : Str) (o0_w1010 : List (Str × Bool × List UInt8)) (s13 : Int) (w1011 : List (Str × Bool × List UInt8)) (k : Ex → St → Option Bool) : Option Bool :=
  law1_BlobPutIsThere_L1 N x0 x1 (fun o1_w1011 => k (.exit 2) (law1_BlobPutIsThere_L1_tl2 x0 x1 o0_w1010 o1_w1011)) N s13 w1011
abbrev law1_BlobPutIsThere_L1_F (N : Nat) : FV law1_BlobPutIsThere_L1_fs → HV law1_BlobPutIsThere_L1_bs → (Ex → St → Option Bool) → Option Bool := fun x y k => law1_BlobPutIsThere_L1_G N x.1 x.2.1 y.1 x.2.2.2.2.1 y.2.1 k
noncomputable def law1_BlobPutIsThere_LP (N : Nat) : Nat → Code → St → (Ex → St → Option Bool) → Option Bool := fun i c =>
  match i with
  | 0 => (LPc 100 law1_BlobPutIsThere_L0_fs law1_BlobPutIsThere_L0_bs (law1_BlobPutIsThere_L0_F N) (fun st k => iter (law1_BlobPutIsThere_h 0) (exec (law1_BlobPutIsThere_E N) N c 0) N st k))
  | 2 => (LPc 100 law1_BlobPutIsThere_L1_fs law1_BlobPutIsThere_L1_bs (law1_BlobPutIsThere_L1_F N) (fun st k => iter (law1_BlobPutIsThere_h 2) (exec (law1_BlobPutIsThere_E N) N c 2) N st k))
  | i => fun st k => iter (law1_BlobPutIsThere_h i) (exec (law1_BlobPutIsThere_E N) N c i) N st k
theorem law1_BlobPutIsThere_L1_step (N : Nat) (x0 : List (Str × Bool × List UInt8)) (x1 : Str) (o0_w1010 : List (Str × Bool × List UInt8)) (KX : Nat → St → Option Bool) (I : St → Option Bool) (s13 : Int) (w1011 : List (Str × Bool × List UInt8)) :
    execL (law1_BlobPutIsThere_LP N) (law1_BlobPutIsThere_E N) (cAt (bodyOf Tryd.f9) [true, true, true, true, true, true, true, false, true, false, false]) 2 (law1_BlobPutIsThere_L1_hd x0 x1 o0_w1010 s13 w1011) (roundK (law1_BlobPutIsThere_h 2) I KX (resD (law1_BlobPutIsThere_E N) Tryd.f9 (law1_BlobPutIsThere_sg fun x _ => law1_BlobPutIsThere N x.1 x.2.1 x.2.2.1) law1_BlobPutIsThere_pk)) = law1_BlobPutIsThere_L1T N x0 x1 (fun o1_w1011 => KX 2 (law1_BlobPutIsThere_L1_tl2 x0 x1 o0_w1010 o1_w1011)) (fun s13 w1011 => I (law1_BlobPutIsThere_L1_hd x0 x1 o0_w1010 s13 w1011)) s13 w1011 := by kernel_rfl
theorem law1_BlobPutIsThere_L1_ok (N : Nat) : ∀ x y k, (∀ st, k .ret st = (resD (law1_BlobPutIsThere_E N) Tryd.f9 (law1_BlobPutIsThere_sg fun x _ => law1_BlobPutIsThere N x.1 x.2.1 x.2.2.1) law1_BlobPutIsThere_pk) st) → iter (law1_BlobPutIsThere_h 2) (exec (law1_BlobPutIsThere_E N) N (cAt (bodyOf Tryd.f9) [true, true, true, true, true, true, true, false, true, false, false]) 2) N ⟨100, unF law1_BlobPutIsThere_L1_fs x, unH law1_BlobPutIsThere_L1_bs y⟩ k = law1_BlobPutIsThere_L1_F N x y k := fun x y k hk =>
  iter_link (S := (Int) × (List (Str × Bool × List UInt8)) × Unit) (law1_BlobPutIsThere_h 2) _ (execL (law1_BlobPutIsThere_LP N) (law1_BlobPutIsThere_E N) (cAt (bodyOf Tryd.f9) [true, true, true, true, true, true, true, false, true, false, false]) 2) (resD (law1_BlobPutIsThere_E N) Tryd.f9 (law1_BlobPutIsThere_sg fun x _ => law1_BlobPutIsThere N x.1 x.2.1 x.2.2.1) law1_BlobPutIsThere_pk) (fun st k hk => execL_eq _ _ N _ (cAt (bodyOf Tryd.f9) [true, true, true, true, true, true, true, false, true, false, false]) 2 (show LoopsOk (law1_BlobPutIsThere_LP N) (law1_BlobPutIsThere_E N) N (resD (law1_BlobPutIsThere_E N) Tryd.f9 (law1_BlobPutIsThere_sg fun x _ => law1_BlobPutIsThere N x.1 x.2.1 x.2.2.1) law1_BlobPutIsThere_pk) [] from trivial) st k hk) (fun s => law1_BlobPutIsThere_L1_hd x.1 x.2.1 y.1 s.1 s.2.1) k hk
    (fun self s => law1_BlobPutIsThere_L1T N x.1 x.2.1 (fun o1_w1011 => k (.exit 2) (law1_BlobPutIsThere_L1_tl2 x.1 x.2.1 y.1 o1_w1011)) (fun s13 w1011 => self (s13, w1011, ())) s.1 s.2.1) (fun n s => law1_BlobPutIsThere_L1 N x.1 x.2.1 (fun o1_w1011 => k (.exit 2) (law1_BlobPutIsThere_L1_tl2 x.1 x.2.1 y.1 o1_w1011)) n s.1 s.2.1) (fun _ => rfl) (fun _ _ => rfl)
    (fun I s => law1_BlobPutIsThere_L1_step N x.1 x.2.1 y.1 (fun j => k (.exit j)) I s.1 s.2.1) N (x.2.2.2.2.1, y.2.1, ())
theorem law1_BlobPutIsThere_lp2 (N : Nat) : ∀ st k, (∀ st, k .ret st = (resD (law1_BlobPutIsThere_E N) Tryd.f9 (law1_BlobPutIsThere_sg fun x _ => law1_BlobPutIsThere N x.1 x.2.1 x.2.2.1) law1_BlobPutIsThere_pk) st) → law1_BlobPutIsThere_LP N 2 (cAt (bodyOf Tryd.f9) [true, true, true, true, true, true, true, false, true, false, false]) st k = iter (Env.hint (law1_BlobPutIsThere_E N) 2) (exec (law1_BlobPutIsThere_E N) N (cAt (bodyOf Tryd.f9) [true, true, true, true, true, true, true, false, true, false, false]) 2) N st k := fun st k hk => LPc_eq 100 law1_BlobPutIsThere_L1_fs law1_BlobPutIsThere_L1_bs _ _ (resD (law1_BlobPutIsThere_E N) Tryd.f9 (law1_BlobPutIsThere_sg fun x _ => law1_BlobPutIsThere N x.1 x.2.1 x.2.2.1) law1_BlobPutIsThere_pk) (law1_BlobPutIsThere_L1_ok N) _ st k hk (rfl)
theorem law1_BlobPutIsThere_L0_step (N : Nat) (x0 : List (Str × Bool × List UInt8)) (x1 : Str) (c7 : List (Str × Bool × List UInt8)) (cw1011 : List (Str × Bool × List UInt8)) (KX : Nat → St → Option Bool) (I : St → Option Bool) (s12 : Int) (w1010 : List (Str × Bool × List UInt8)) :
    execL (law1_BlobPutIsThere_LP N) (law1_BlobPutIsThere_E N) (cAt (bodyOf Tryd.f9) [true, true, true, true, true, true, false, true, false, false]) 0 (law1_BlobPutIsThere_L0_hd x0 x1 c7 cw1011 s12 w1010) (roundK (law1_BlobPutIsThere_h 0) I KX (resD (law1_BlobPutIsThere_E N) Tryd.f9 (law1_BlobPutIsThere_sg fun x _ => law1_BlobPutIsThere N x.1 x.2.1 x.2.2.1) law1_BlobPutIsThere_pk)) = law1_BlobPutIsThere_L0T N x1 c7 (fun o0_w1010 => KX 0 (law1_BlobPutIsThere_L0_tl0 x0 x1 c7 cw1011 o0_w1010)) (fun s12 w1010 => I (law1_BlobPutIsThere_L0_hd x0 x1 c7 cw1011 s12 w1010)) s12 w1010 := by kernel_rfl
theorem law1_BlobPutIsThere_L0_ok (N : Nat) : ∀ x y k, (∀ st, k .ret st = (resD (law1_BlobPutIsThere_E N) Tryd.f9 (law1_BlobPutIsThere_sg fun x _ => law1_BlobPutIsThere N x.1 x.2.1 x.2.2.1) law1_BlobPutIsThere_pk) st) → iter (law1_BlobPutIsThere_h 0) (exec (law1_BlobPutIsThere_E N) N (cAt (bodyOf Tryd.f9) [true, true, true, true, true, true, false, true, false, false]) 0) N ⟨100, unF law1_BlobPutIsThere_L0_fs x, unH law1_BlobPutIsThere_L0_bs y⟩ k = law1_BlobPutIsThere_L0_F N x y k := fun x y k hk =>
  iter_link (S := (Int) × (List (Str × Bool × List UInt8)) × Unit) (law1_BlobPutIsThere_h 0) _ (execL (law1_BlobPutIsThere_LP N) (law1_BlobPutIsThere_E N) (cAt (bodyOf Tryd.f9) [true, true, true, true, true, true, false, true, false, false]) 0) (resD (law1_BlobPutIsThere_E N) Tryd.f9 (law1_BlobPutIsThere_sg fun x _ => law1_BlobPutIsThere N x.1 x.2.1 x.2.2.1) law1_BlobPutIsThere_pk) (fun st k hk => execL_eq _ _ N _ (cAt (bodyOf Tryd.f9) [true, true, true, true, true, true, false, true, false, false]) 0 (show LoopsOk (law1_BlobPutIsThere_LP N) (law1_BlobPutIsThere_E N) N (resD (law1_BlobPutIsThere_E N) Tryd.f9 (law1_BlobPutIsThere_sg fun x _ => law1_BlobPutIsThere N x.1 x.2.1 x.2.2.1) law1_BlobPutIsThere_pk) [] from trivial) st k hk) (fun s => law1_BlobPutIsThere_L0_hd x.1 x.2.1 x.2.2.1 y.2.1 s.1 s.2.1) k hk
    (fun self s => law1_BlobPutIsThere_L0T N x.2.1 x.2.2.1 (fun o0_w1010 => k (.exit 0) (law1_BlobPutIsThere_L0_tl0 x.1 x.2.1 x.2.2.1 y.2.1 o0_w1010)) (fun s12 w1010 => self (s12, w1010, ())) s.1 s.2.1) (fun n s => law1_BlobPutIsThere_L0 N x.2.1 x.2.2.1 (fun o0_w1010 => k (.exit 0) (law1_BlobPutIsThere_L0_tl0 x.1 x.2.1 x.2.2.1 y.2.1 o0_w1010)) n s.1 s.2.1) (fun _ => rfl) (fun _ _ => rfl)
    (fun I s => law1_BlobPutIsThere_L0_step N x.1 x.2.1 x.2.2.1 y.2.1 (fun j => k (.exit j)) I s.1 s.2.1) N (x.2.2.2.2.2.1, y.1, ())
theorem law1_BlobPutIsThere_lp0 (N : Nat) : ∀ st k, (∀ st, k .ret st = (resD (law1_BlobPutIsThere_E N) Tryd.f9 (law1_BlobPutIsThere_sg fun x _ => law1_BlobPutIsThere N x.1 x.2.1 x.2.2.1) law1_BlobPutIsThere_pk) st) → law1_BlobPutIsThere_LP N 0 (cAt (bodyOf Tryd.f9) [true, true, true, true, true, true, false, true, false, false]) st k = iter (Env.hint (law1_BlobPutIsThere_E N) 0) (exec (law1_BlobPutIsThere_E N) N (cAt (bodyOf Tryd.f9) [true, true, true, true, true, true, false, true, false, false]) 0) N st k := fun st k hk => LPc_eq 100 law1_BlobPutIsThere_L0_fs law1_BlobPutIsThere_L0_bs _ _ (resD (law1_BlobPutIsThere_E N) Tryd.f9 (law1_BlobPutIsThere_sg fun x _ => law1_BlobPutIsThere N x.1 x.2.1 x.2.2.1) law1_BlobPutIsThere_pk) (law1_BlobPutIsThere_L0_ok N) _ st k hk (rfl)
theorem law1_BlobPutIsThere_core (N : Nat) (x : SV [.v (.sl (.pr .str (.pr .bool (.sl .u8)))), .v .str, .v (.sl (.pr .str (.pr .bool (.sl .u8))))]) (y : BV []) : runL (law1_BlobPutIsThere_E N) Tryd.f9 (law1_BlobPutIsThere_sg fun x _ => law1_BlobPutIsThere N x.1 x.2.1 x.2.2.1) law1_BlobPutIsThere_pk (law1_BlobPutIsThere_LP N) x y = law1_BlobPutIsThere N x.1 x.2.1 x.2.2.1 := by kernel_rfl
theorem law1_BlobPutIsThere_sound (N : Nat) : Sound Tryd.prog GW B0G 9 (law1_BlobPutIsThere_sg fun x _ => law1_BlobPutIsThere N x.1 x.2.1 x.2.2.1) :=
  runD_sound (mkE_ok law1_BlobPutIsThere_h (law1_BlobPutIsThere_fn N) _ _ (law1_BlobPutIsThere_fn_ok N)) Tryd.func9 rfl Tryd.call9 (law1_BlobPutIsThere_sg fun x _ => law1_BlobPutIsThere N x.1 x.2.1 x.2.2.1) law1_BlobPutIsThere_pk (fun _ _ => rfl) N (fun x y _ h => ((runL_eq (law1_BlobPutIsThere_E N) N Tryd.f9 (law1_BlobPutIsThere_sg fun x _ => law1_BlobPutIsThere N x.1 x.2.1 x.2.2.1) law1_BlobPutIsThere_pk (law1_BlobPutIsThere_LP N) (show LoopsOk (law1_BlobPutIsThere_LP N) (law1_BlobPutIsThere_E N) N (resD (law1_BlobPutIsThere_E N) Tryd.f9 (law1_BlobPutIsThere_sg fun x _ => law1_BlobPutIsThere N x.1 x.2.1 x.2.2.1) law1_BlobPutIsThere_pk) [(0, (cAt (bodyOf Tryd.f9) [true, true, true, true, true, true, false, true, false, false])), (2, (cAt (bodyOf Tryd.f9) [true, true, true, true, true, true, true, false, true, false, false]))] from ⟨law1_BlobPutIsThere_lp0 N, law1_BlobPutIsThere_lp2 N, trivial⟩) x y).trans (law1_BlobPutIsThere_core N x y)).trans h)
end
end Go.Proofs.YthlkidohpiebiaaDoor


/- What functions of the program compute, as plain functions (printed). -/
namespace Go.Proofs.YthlkidohpiebiaaDoor
open Go Go.RowKit
set_option maxRecDepth 100000
set_option linter.unusedVariables false
noncomputable section
end
end Go.Proofs.YthlkidohpiebiaaDoor


/- strings.Trim and strings.Join, out of the kit's contracts. -/
namespace Go.Proofs.YthlkidohpiebiaaDoor
set_option linter.unusedVariables false
set_option linter.unusedSimpArgs false
open Go Go.RowKit Go.Shelf
end Go.Proofs.YthlkidohpiebiaaDoor



/- Splitting, cutting and joining at one byte. No program in sight. -/
namespace Go.Proofs.YthlkidohpiebiaaDoor
set_option linter.unusedVariables false
set_option linter.unusedSimpArgs false
open Go Go.RowKit
def splitC (c : UInt8) : Str → List Str
  | [] => [[]]
  | b :: s => if b = c then [] :: splitC c s else match splitC c s with
    | x :: xs => (b :: x) :: xs
    | [] => [[b]]
theorem splitC_ne (c : UInt8) (s : Str) : splitC c s ≠ [] := by
  cases s with
  | nil => simp [splitC]
  | cons b s => unfold splitC; split; simp; split <;> simp
theorem indexByte_cons (b c : UInt8) (s : Str) : Lib.indexByte (b :: s) c = if b = c then 0 else if Lib.indexByte s c = -1 then -1 else Lib.indexByte s c + 1 := by
  have h := Lib.indexByte_ge s c
  rw [Lib.indexByte]
  by_cases hb : b = c
  · simp [hb]
  · simp only [beq_iff_eq, hb, if_false]
theorem splitK_one (c : UInt8) : ∀ (s : Str), Lib.splitK [c] 0 (Lib.count s [c]) s = splitC c s
  | [] => by simp [Lib.count_one, Lib.splitK, splitC]
  | b :: s => by
    have ih := splitK_one c s
    by_cases hb : b = c
    · subst hb
      rw [Lib.count_cons_eq, Nat.add_comm, Lib.splitK, Lib.index_one, indexByte_cons]
      simp only [if_true]
      show (_ :: Lib.splitK [b] 0 (Lib.count s [b]) s) = _
      rw [ih]
      simp [splitC]
    · rw [Lib.count_cons_ne _ _ _ hb]
      unfold splitC
      rw [if_neg hb, ← ih]
      cases hk : Lib.count s [c] with
      | zero => simp [Lib.splitK]
      | succ k =>
        rw [Lib.splitK, Lib.splitK, Lib.index_one, Lib.index_one, indexByte_cons, if_neg hb]
        have h0 := Lib.indexByte_ge s c
        by_cases h1 : Lib.indexByte s c = -1
        · simp [h1]
        · have h2 : ∃ n : Nat, Lib.indexByte s c = n := ⟨(Lib.indexByte s c).toNat, by omega⟩
          obtain ⟨n, hn⟩ := h2
          have e : ((n : Int) + 1).toNat = n + 1 := by omega
          have e1 : ¬ ((n : Int) = -1) := by omega
          have e2 : ¬ ((n : Int) + 1 = -1) := by omega
          simp [hn, e, e1, e2, Nat.add_right_comm]
theorem splitS_one (s : Str) (c : UInt8) : splitS s [c] = splitC c s := by
  unfold splitS
  have := Lib.splitB_data ⟨[c].toArray⟩ 0 (Lib.countB ⟨s.toArray⟩ ⟨[c].toArray⟩) ⟨s.toArray⟩
  rw [this]
  exact splitK_one c s
theorem splitC_len (c : UInt8) : ∀ s : Str, (splitC c s).length = s.count c + 1
  | [] => rfl
  | b :: s => by
    have ih := splitC_len c s
    unfold splitC
    by_cases hb : b = c
    · rw [if_pos hb]; simp [hb, ih]
    · rw [if_neg hb, List.count_cons_of_ne hb, ← ih]
      have := splitC_ne c s
      cases h : splitC c s with
      | nil => exact absurd h this
      | cons => rfl
theorem strings_Split_one (s : Str) (c : UInt8) (h : s.length < 4294967281) : strings_Split s [c] = some (splitC c s) := by
  have hc : s.count c ≤ s.length := List.count_le_length
  unfold strings_Split
  rw [splitS_one, splitC_len]
  refine if_pos ⟨h, by simp, ?_, by omega⟩
  show _ = Lib.count s [c] + 1
  rw [Lib.count_one]
theorem splitC_mem (c : UInt8) (s : Str) : ∀ x ∈ splitC c s, c ∉ x ∧ x.length ≤ s.length := by
  induction s with
  | nil => intro x hx; simp [splitC] at hx; subst hx; simp
  | cons b s ih =>
    intro x hx
    unfold splitC at hx
    by_cases hb : b = c
    · rw [if_pos hb] at hx
      rcases List.mem_cons.1 hx with rfl | hx
      · simp
      · have := ih x hx; exact ⟨this.1, by simp; omega⟩
    · rw [if_neg hb] at hx
      cases h : splitC c s with
      | nil => exact absurd h (splitC_ne c s)
      | cons y ys =>
        rw [h] at hx ih
        rcases List.mem_cons.1 hx with rfl | hx
        · have := ih y (by simp)
          refine ⟨fun hm => ?_, by simp; omega⟩
          rcases List.mem_cons.1 hm with e | hm
          · exact hb e.symm
          · exact this.1 hm
        · have := ih x (List.mem_cons_of_mem _ hx); exact ⟨this.1, by simp; omega⟩
end Go.Proofs.YthlkidohpiebiaaDoor


/- The arguments of a law, as the statement's reading hands them over, as data of the machine: any type. -/
namespace Go.Proofs.YthlkidohpiebiaaDoor
set_option linter.unusedVariables false
set_option linter.unusedSimpArgs false
open Go Go.RowKit Go.ChangeShapes Go.WideShapes
/-- Nothing is longer than Go lets it be. -/
def FitG (RR : (i : RC) → i.den → Prop) : (t : Ty) → t.den → Prop
  | .u8, _ => True
  | .int k, x => (Lit.int k x).wf = true
  | .bool, _ => True
  | .str, x => x.length ≤ maxLen
  | .sl t, xs => xs.length ≤ maxLen ∧ ∀ x ∈ xs, FitG RR t x
  | .pr a b, x => FitG RR a x.1 ∧ FitG RR b x.2
  | .un, _ => True
  | .mp _, _ => True
  | .ptr _, _ => True
  | .np _, _ => True
  | .clo _ _, _ => True
  | .rc i, x => RR i x
def FitR (i : RC) (x : i.den) : Prop := ∀ RR : (i : RC) → i.den → Prop, (∀ j y, FitG RR j.body (j.un y) → RR j y) → RR i x
def Fit : (t : Ty) → t.den → Prop := FitG FitR
theorem FitG.mono {RR RR' : (i : RC) → i.den → Prop} (hR : ∀ i x, RR i x → RR' i x) : ∀ (t : Ty) (x : t.den), FitG RR t x → FitG RR' t x
  | .u8, _, h => h
  | .int _, _, h => h
  | .bool, _, h => h
  | .str, _, h => h
  | .sl t, _, h => ⟨h.1, fun x hx => FitG.mono hR t x (h.2 x hx)⟩
  | .pr a b, _, h => ⟨FitG.mono hR a _ h.1, FitG.mono hR b _ h.2⟩
  | .un, _, h => h
  | .mp _, _, h => h
  | .ptr _, _, h => h
  | .np _, _, h => h
  | .clo _ _, _, h => h
  | .rc i, x, h => hR i x h
theorem FitR.intro {i : RC} {x : i.den} (h : Fit i.body (i.un x)) : FitR i x :=
  fun RR hc => hc i x (FitG.mono (fun j y hy => hy RR hc) _ _ h)
theorem FitR.elim {i : RC} {x : i.den} (h : FitR i x) : Fit i.body (i.un x) :=
  h (fun j y => Fit j.body (j.un y)) fun _ _ hy => FitG.mono (fun _ _ h => FitR.intro h) _ _ hy
mutual
/-- A type of the program is this one, down to its parts. -/
inductive Deep (P : Program) (R : RC → Option TypeId) : Ty → TypeId → Prop where
  | u8 {T : TypeId} : P.underlying T = some (.int .u8) → Deep P R .u8 T
  | int {T : TypeId} {k : IntKind} : P.underlying T = some (.int k) → Deep P R (.int k) T
  | bool {T : TypeId} : P.underlying T = some .bool → Deep P R .bool T
  | str {T : TypeId} : P.underlying T = some .string → Deep P R .str T
  | sl {T e : TypeId} {t : Ty} : P.underlying T = some (.slice e) → P.cellsOf e = t.sz → Deep P R t e → Deep P R (.sl t) T
  | st {T : TypeId} {t : Ty} {fs : Array Field} : P.underlying T = some (.struct fs) → P.cellsOf T = t.sz → t.isAgg = true → DeepF P R t fs.toList 0 → Deep P R t T
  | rc {T : TypeId} {i : RC} : R i = some T → Deep P R (.rc i) T
/-- The same, of fields from a place on. -/
inductive DeepF (P : Program) (R : RC → Option TypeId) : Ty → List Field → Nat → Prop where
  | nil {o : Nat} : DeepF P R .un [] o
  | one {t : Ty} {f : Field} {o : Nat} : f.offset = o → P.cellsOf f.type = t.sz → Deep P R t f.type → DeepF P R t [f] o
  | single {t : Ty} {f : Field} {o : Nat} : f.offset = o → P.cellsOf f.type = t.sz → Deep P R t f.type → DeepF P R (.pr t .un) [f] o
  | cons {a b : Ty} {f : Field} {fs : List Field} {o : Nat} : f.offset = o → P.cellsOf f.type = a.sz → Deep P R a f.type → DeepF P R b fs (o + a.sz) → DeepF P R (.pr a b) (f :: fs) o
end
def RcOk (P : Program) (R : RC → Option TypeId) : Prop := ∀ i T, R i = some T → ∃ fs, P.underlying T = some (.struct fs) ∧ P.cellsOf T = i.sz ∧ DeepF P R i.body fs.toList 0
abbrev M00 : Nat → Nat → Prop := fun _ _ => False
section
variable {H : Type} {enc : TypeId × Value → H} {P : Program} {w : World} {spare : Nat → Bool} {held : Bool} {R : RC → Option TypeId}
theorem choose_list {α : Type} {p : Nat → α → Prop} : ∀ n, (∀ i, i < n → ∃ x, p i x) → ∃ l : List α, l.length = n ∧ ∀ i (h : i < l.length), p i l[i]
  | 0, _ => ⟨[], rfl, fun i h => absurd h (Nat.not_lt_zero _)⟩
  | n + 1, h => by
    obtain ⟨l, hl, hp⟩ := choose_list n fun i hi => h i (Nat.lt_succ_of_lt hi)
    obtain ⟨x, hx⟩ := h n (Nat.lt_succ_self _)
    refine ⟨l ++ [x], by simp [hl], fun i hi => ?_⟩
    rcases Nat.lt_or_ge i l.length with h' | h'
    · rw [List.getElem_append_left h']; exact hp i h'
    · have : i = l.length := by simp at hi; omega
      subst this
      simp [hl, hx]
theorem pl_of_cells {a : Addr} {n : Nat} {cs : List Value} (h : w.cells? 0 a n = some cs) : Pl M00 w a cs := by
  intro j u hu
  refine ⟨?_, id⟩
  unfold World.cells? at h
  rw [if_pos (Nat.zero_le _)] at h
  have hl := mapM_some_length h
  have hj : j < n := by
    rcases Nat.lt_or_ge j cs.length with h' | h'
    · rw [hl, List.length_range] at h'; exact h'
    · rw [List.getElem?_eq_none h'] at hu; cases hu
  have := mapM_some_get h j j (by rw [List.getElem?_range hj])
  rw [this]; exact hu
/-- What fields read as. -/
theorem fields_rep {fuel : Nat} {cs : List Value}
    (ih : ∀ (t : Ty) (T : TypeId) (cs : List Value) (x : DataW H × List MemPlace), Deep P R t T → DataW.trod enc P w 0 spare held fuel T cs = some x → ∃ d : t.den, RepC M00 w t d cs ∧ Fit t d) :
    ∀ (fs : List Field) (t : Ty) (o : Nat) (xs : List (DataW H × List MemPlace)), DeepF P R t fs o →
      (fs.mapM fun f => DataW.trod enc P w 0 spare held fuel f.type ((cs.drop f.offset).take (P.cellsOf f.type))) = some xs → ∃ d : t.den, RepC M00 w t d ((cs.drop o).take t.sz) ∧ Fit t d := by
  intro fs
  induction fs with
  | nil =>
    intro t o xs hd _
    cases hd
    exact ⟨(), List.take_zero, trivial⟩
  | cons f fs hfs =>
    intro t o xs hd hm
    have hhead : ∃ y, DataW.trod enc P w 0 spare held fuel f.type ((cs.drop f.offset).take (P.cellsOf f.type)) = some y := by
      have := mapM_some_get hm 0 f rfl
      cases hx : xs[0]? with
      | none =>
        have hl := mapM_some_length hm
        rw [List.getElem?_eq_none_iff] at hx
        simp at hl; omega
      | some y => exact ⟨y, this.trans hx⟩
    have htail : ∃ ys, (fs.mapM fun f => DataW.trod enc P w 0 spare held fuel f.type ((cs.drop f.offset).take (P.cellsOf f.type))) = some ys := by
      rw [List.mapM_cons] at hm
      obtain ⟨y, hy⟩ := hhead
      rw [hy] at hm
      cases hys : (fs.mapM fun f => DataW.trod enc P w 0 spare held fuel f.type ((cs.drop f.offset).take (P.cellsOf f.type))) with
      | none => rw [hys] at hm; cases hm
      | some ys => exact ⟨ys, rfl⟩
    obtain ⟨y, hy⟩ := hhead
    obtain ⟨ys, hys⟩ := htail
    cases hd with
    | one ho hc h1 =>
      rw [ho, hc] at hy
      exact ih _ _ _ _ h1 hy
    | single ho hc h1 =>
      rw [ho, hc] at hy
      obtain ⟨d, hd1, hd2⟩ := ih _ _ _ _ h1 hy
      exact ⟨(d, ()), ⟨_, [], (List.append_nil _).symm, hd1, rfl⟩, hd2, trivial⟩
    | @cons a b _ _ _ ho hc h1 h2 =>
      rw [ho, hc] at hy
      obtain ⟨d, hd1, hd2⟩ := ih _ _ _ _ h1 hy
      obtain ⟨e, he1, he2⟩ := hfs _ _ _ h2 hys
      refine ⟨(d, e), ⟨_, _, ?_, hd1, he1⟩, hd2, he2⟩
      show (cs.drop o).take (a.sz + b.sz) = _
      rw [List.take_add, List.drop_drop]
theorem trod_rep (hR : RcOk P R) : ∀ (fuel : Nat) (t : Ty) (T : TypeId) (cs : List Value) (x : DataW H × List MemPlace), Deep P R t T → DataW.trod enc P w 0 spare held fuel T cs = some x →
    ∃ d : t.den, RepC M00 w t d cs ∧ Fit t d := by
  intro fuel
  induction fuel with
  | zero => intro t T cs x _ h; cases h
  | succ fuel ih =>
    intro t T cs x hd h
    have hstruct : ∀ (t : Ty) (fs : Array Field), P.underlying T = some (.struct fs) → P.cellsOf T = t.sz → DeepF P R t fs.toList 0 → ∃ d : t.den, RepC M00 w t d cs ∧ Fit t d := fun t fs hu hc hf => by
      unfold DataW.trod at h
      simp only [hu] at h
      split at h
      · rename_i hl
        cases hm : (fs.toList.mapM fun f => DataW.trod enc P w 0 spare held fuel f.type ((cs.drop f.offset).take (P.cellsOf f.type))) with
        | none => rw [hm] at h; cases h
        | some xs =>
          obtain ⟨d, h1, h2⟩ := fields_rep ih fs.toList t 0 xs hf hm
          rw [List.drop_zero, List.take_of_length_le (by omega)] at h1
          exact ⟨d, h1, h2⟩
      · cases h
    cases hd with
    | u8 hu =>
      have hx : ∃ n, cs = [.int .u8 n] ∧ (Lit.int .u8 n).wf = true := by
        unfold DataW.trod at h
        split at h <;> simp_all
      obtain ⟨n, rfl, hn⟩ := hx
      refine ⟨UInt8.ofNat n.toNat, ?_, trivial⟩
      show [Value.int .u8 n] = [Value.int .u8 (UInt8.ofNat n.toNat).toNat]
      simp [Lit.wf, IntKind.min, IntKind.max, IntKind.signed, IntKind.bits] at hn
      have : ((UInt8.ofNat n.toNat).toNat : Int) = n := by simp; omega
      rw [this]
    | @int _ k hu =>
      have hx : ∃ n, cs = [.int k n] ∧ (Lit.int k n).wf = true := by
        unfold DataW.trod at h
        split at h <;> simp_all
      obtain ⟨n, rfl, hn⟩ := hx
      exact ⟨n, rfl, hn⟩
    | bool hu =>
      have hx : ∃ b, cs = [.bool b] := by
        unfold DataW.trod at h
        split at h <;> simp_all
      obtain ⟨b, rfl⟩ := hx
      exact ⟨b, rfl, trivial⟩
    | str hu =>
      have hx : ∃ s : ByteArray, cs = [.string s] ∧ s.size ≤ maxLen := by
        unfold DataW.trod at h
        split at h <;> simp_all
      obtain ⟨s, rfl, hn⟩ := hx
      refine ⟨s.data.toList, ?_, ?_⟩
      · show [Value.string s] = [Value.string ⟨s.data.toList.toArray⟩]
        simp
      · show s.data.toList.length ≤ maxLen
        simpa using hn
    | @sl _ e t hu hc he =>
      have hx : cs = [.slice none 0 0] ∨ ∃ a len cap, cs = [.slice (some a) len cap] ∧ len ≤ cap ∧ cap ≤ maxLen ∧
          ∀ i, i < len → ∃ y, (w.cells? 0 (a.add (i * P.cellsOf e)) (P.cellsOf e)).bind (DataW.trod enc P w 0 spare held fuel e) = some y := by
        unfold DataW.trod at h
        split at h
        all_goals try (simp_all; done)
        · rename_i hu2
          rw [hu] at hu2
          cases hu2
          simp only at h
          split at h
          · rename_i hb
            right
            refine ⟨_, _, _, rfl, hb.2.1, hb.2.2, fun i hi => ?_⟩
            cases hm : ((List.range _).mapM fun i => (w.cells? 0 (Addr.add _ (i * P.cellsOf e)) (P.cellsOf e)).bind (DataW.trod enc P w 0 spare held fuel e)) with
            | none => rw [hm] at h; cases h
            | some ys =>
              have h1 := mapM_some_get hm i i (by rw [List.getElem?_range hi])
              have hl := mapM_some_length hm
              rw [List.length_range] at hl
              exact ⟨ys[i]'(by omega), h1.trans (List.getElem?_eq_getElem (by omega))⟩
          · cases h
      rcases hx with rfl | ⟨a, len, cap, rfl, h1, h2, h3⟩
      · exact ⟨[], ⟨none, 0, rfl, Nat.le_refl _, Nat.zero_le _, fun i h => absurd h (Nat.not_lt_zero _)⟩, Nat.zero_le _, fun x h => by cases h⟩
      · have hall : ∀ i, i < len → ∃ d : t.den, (∃ es, RepC M00 w t d es ∧ Pl M00 w (a.add (i * t.sz)) es) ∧ Fit t d := fun i hi => by
          obtain ⟨y, hy⟩ := h3 i hi
          rw [hc] at hy
          cases hcs : w.cells? 0 (a.add (i * t.sz)) t.sz with
          | none => rw [hcs] at hy; cases hy
          | some es =>
            rw [hcs] at hy
            obtain ⟨d, hd1, hd2⟩ := ih _ _ _ _ he hy
            exact ⟨d, ⟨es, hd1, pl_of_cells hcs⟩, hd2⟩
        obtain ⟨l, hl, hp⟩ := choose_list len hall
        refine ⟨l, ⟨some a, cap, ?_, by omega, h2, fun i hi => ?_⟩, ?_, fun x hx => ?_⟩
        · rw [hl]
        · obtain ⟨⟨es, e1, e2⟩, _⟩ := hp i hi
          exact ⟨a, es, rfl, e1, e2⟩
        · show l.length ≤ maxLen; omega
        · obtain ⟨i, hi, rfl⟩ := List.getElem_of_mem hx
          exact (hp i hi).2
    | st hu hc ha hf => exact hstruct t _ hu hc hf
    | rc hr =>
      obtain ⟨fs, hu, hc, hf⟩ := hR _ _ hr
      rename_i i
      obtain ⟨d, h1, h2⟩ := hstruct i.body fs hu (by rw [hc, RC.sz_body]) hf
      refine ⟨i.mk d, RepC.rc.2 (by rw [RC.un_mk]; exact h1), FitR.intro (by rw [RC.un_mk]; exact h2)⟩
/-- An argument. -/
theorem arg_open (hR : RcOk P R) {r : Reach} {base : Nat} {t : Ty} {T : TypeId} {v : Value} {d : DataW H} {p : List MemPlace} (hd : Deep P R t T) (hv : Value.okWide P w r base T v) (h : DataW.Trod enc P w 0 spare held T v d p) :
    ∃ x : t.den, RepV M00 w t x v ∧ Fit t x := by
  obtain ⟨fuel, hf⟩ := h
  obtain ⟨x, h1, h2⟩ := trod_rep hR fuel t T _ _ hd hf
  refine ⟨x, ⟨_, h1, ?_⟩, h2⟩
  have hagg : ∀ fs, P.underlying T = some (.struct fs) → t.isAgg = true → v = mkV t v.cells.toList := fun fs hu ha => by
    obtain ⟨cs, rfl, _⟩ := okWide_struct hu hv
    rw [mkV_agg ha]
    simp [Value.cells]
  have hone : ∀ c : Value, v = c → c.cells = #[c] → t.isAgg = false → v = mkV t v.cells.toList := fun c e hc ha => by
    subst e
    rw [hc, mkV_plain ha]
  cases hd with
  | u8 hu => obtain ⟨n, rfl⟩ := okWide_int hu hv; exact hone _ rfl rfl rfl
  | int hu => obtain ⟨n, rfl⟩ := okWide_int hu hv; exact hone _ rfl rfl rfl
  | bool hu => obtain ⟨n, rfl⟩ := okWide_bool hu hv; exact hone _ rfl rfl rfl
  | str hu => obtain ⟨n, rfl⟩ := okWide_string hu hv; exact hone _ rfl rfl rfl
  | sl hu _ _ => obtain ⟨a, l, c, rfl⟩ := okWide_slice hu hv; exact hone _ rfl rfl rfl
  | st hu _ ha _ => exact hagg _ hu ha
  | rc hr => obtain ⟨fs, hu, _⟩ := hR _ _ hr; exact hagg _ hu rfl
end
/-- A law is called. -/
theorem law_run {P : Program} {f : FuncId} {ps : List Sl} {F : SV ps → BV [] → Option Bool} {out : Bool → SV [.v .bool] × BV []} (hout : ∀ z, (out z).1 = (z, ())) (hs : Sound P GW B0G f ⟨ps, [], [.v .bool], [], Bool, out, F⟩)
    {W : World} {vs : List Value} {x : SV ps} (hg : GW W) (ha : All2 (RepD0 M00 W g0) (lays id ps x) vs) (hf : F x () = some true) : Calls P f vs.toArray W fun e W' => e = .returned (.bool true) ∧ Ext W W' := by
  refine (hs.2 M00 W g0 vs x () true hg (GW_size hg) { args := ha, res := fun r blk h => (by cases h), dom := fun r gx h => (by cases h), inj := fun _ _ _ _ _ h => (by cases h), low := fun _ _ _ h => (by cases h), chg := fun _ _ _ _ h => (by cases h), mlt := fun b o h => h.elim, row := fun _ _ _ h => (by cases h) } hf).mono fun e W' hp => ?_
  obtain ⟨vs', g', he, hE, _, hF, _⟩ := hp
  refine ⟨?_, hE.ext fun b hb => ?_⟩
  · have := hF.args
    rw [hout] at this
    match vs', this with
    | [v], ⟨h1, _⟩ =>
      have h2 := RepV.plain (t := .bool) rfl h1
      have h3 : [v] = [.bool true] := h2
      injection h3 with h3
      rw [he, h3]
      rfl
  · obtain ⟨r, x, h, _⟩ := hb
    cases h
end Go.Proofs.YthlkidohpiebiaaDoor


/- Patterns in the program and in its reference (law 6), in plain Lean. -/
namespace Go.Proofs.YthlkidohpiebiaaDoor
set_option linter.unusedVariables false
set_option linter.unusedSimpArgs false
open Go Go.RowKit
theorem parts_len {x : Str} (h : x.length < 1000000) : (splitC 47 x).length ≤ 1000000 := by
  rw [splitC_len]
  have := List.count_le_length (a := (47 : UInt8)) (l := x)
  omega
theorem parts_le {x : Str} (h : x.length < 1000000) : ∀ q ∈ splitC 47 x, q.length ≤ 1000000 := fun q hq => by
  have := (splitC_mem 47 x q hq).2
  omega
theorem inPart_fin (N : Nat) : ∀ n : Fin 256, blob_inPart 0 (UInt8.ofNat n.1) = ref1_partByte 0 (UInt8.ofNat n.1) := by decide +kernel
theorem inPart_eq (N : Nat) (c : UInt8) : blob_inPart N c = ref1_partByte N c := by
  have h := inPart_fin 0 ⟨c.toNat, c.toNat_lt⟩
  have e : UInt8.ofNat c.toNat = c := by simp
  simp only [e] at h
  exact h
theorem isPart_eq (N : Nat) (x : Str) : blob_isPart N x = ref1_isPart N x := by
  have gen : ∀ (k : Option Bool) (n : Nat) (i : Int), blob_isPart_L0 N x (x.length : Int) k n i = ref1_isPart_L0 N x k n i := by
    intro k n
    induction n with
    | zero => intro i; rfl
    | succ n ih =>
      intro i
      show blob_isPart_L0T N x _ k _ i = ref1_isPart_L0T N x k _ i
      unfold blob_isPart_L0T ref1_isPart_L0T
      simp only [inPart_eq, ih]
  exact gen _ _ _
theorem isPath_eq (N : Nat) (x : Str) : blob_IsPath N x = ref1_IsPath N x := by
  have gen : ∀ (P : List Str) (k : Option Bool) (n : Nat) (i : Int), blob_IsPath_L0 N P (P.length : Int) k n i = ref1_IsPath_L0 N P k n i := by
    intro P k n
    induction n with
    | zero => intro i; rfl
    | succ n ih =>
      intro i
      show blob_IsPath_L0T N P _ k _ i = ref1_IsPath_L0T N P k _ i
      unfold blob_IsPath_L0T ref1_IsPath_L0T
      simp only [isPart_eq, ih]
  unfold blob_IsPath ref1_IsPath ref1_within
  simp only [gen]
  by_cases h1 : (x.length : Int) < 1
  · rw [br_pos h1, br_neg (by omega)]; simp
  · rw [br_neg h1]
    by_cases h2 : (x.length : Int) > 200
    · rw [br_pos h2, br_pos (by omega), decide_eq_false (by omega)]; simp
    · rw [br_neg h2, br_pos (by omega), decide_eq_true (by omega)]; simp
theorem scan_loop {α R : Type} {xs : List α} (ok : α → Bool) {k bad : Option R} {f : Nat → Int → Option R} (hstep : ∀ n i (hi : i < xs.length), f (n + 1) (i : Int) = if ok xs[i] = true then f n ((i + 1 : Nat) : Int) else bad)
    (hend : ∀ n, f (n + 1) (xs.length : Int) = k) : ∀ n, xs.length < n → f n 0 = if xs.all ok = true then k else bad := by
  have gen : ∀ (d n i : Nat), i + d = xs.length → d < n → f n (i : Int) = if (xs.drop i).all ok = true then k else bad := by
    intro d
    induction d with
    | zero =>
      intro n i h hn
      obtain ⟨n, rfl⟩ : ∃ j, n = j + 1 := ⟨n - 1, by omega⟩
      obtain rfl : i = xs.length := by omega
      rw [hend, List.drop_length]; rfl
    | succ d ih =>
      intro n i h hn
      obtain ⟨n, rfl⟩ : ∃ j, n = j + 1 := ⟨n - 1, by omega⟩
      have hi : i < xs.length := by omega
      rw [hstep n i hi, ih n (i + 1) (by omega) (by omega), List.drop_eq_getElem_cons hi, List.all_cons]
      cases ok xs[i] <;> simp
  intro n hn
  have := gen xs.length n 0 (by omega) hn
  simpa using this
def byteB (c : UInt8) : Bool := (ref1_partByte 0 c).getD false
theorem byte_fin : ∀ n : Fin 256, ref1_partByte 0 (UInt8.ofNat n.1) = some (byteB (UInt8.ofNat n.1)) := by decide +kernel
theorem byte_eq (N : Nat) (c : UInt8) : ref1_partByte N c = some (byteB c) := by
  have h := byte_fin ⟨c.toNat, c.toNat_lt⟩
  have e : UInt8.ofNat c.toNat = c := by simp
  simp only [e] at h
  exact h
theorem part_scan {N : Nat} {x : Str} (hx : x.length ≤ 1000000) (k : Option Bool) : ∀ n, x.length < n → ref1_isPart_L0 N x k n 0 = if x.all byteB = true then k else some false := by
  refine scan_loop byteB (fun n i hi => ?_) (fun n => ?_)
  · show ref1_isPart_L0T N x k _ (i : Int) = _
    have hw : IntKind.i64.wrap ((i : Int) + 1) = ((i + 1 : Nat) : Int) := by rw [wrap_id (by omega) (by omega)]; omega
    unfold ref1_isPart_L0T
    rw [br_pos (by omega : (i : Int) < (x.length : Int)), geti_lt x hi, bnd_some, byte_eq, bnd_some, hw]
    cases byteB x[i] <;> simp
  · show ref1_isPart_L0T N x k _ (x.length : Int) = _
    unfold ref1_isPart_L0T
    rw [br_neg (by omega)]
def partP (x : Str) : Bool := x.all byteB && !(x == []) && !(x == [46]) && !(x == [46, 46])
theorem isPart_val {N : Nat} (hN : big ≤ N) {x : Str} (hx : x.length ≤ 1000000) : ref1_isPart N x = some (partP x) := by
  have hb : (18446744073709551616 : Nat) ≤ N := hN
  unfold ref1_isPart partP
  rw [part_scan hx _ N (by omega)]
  cases x.all byteB <;> cases (x == ([] : Str)) <;> cases (x == ([46] : Str)) <;> cases (x == ([46, 46] : Str)) <;> simp
def pathB (x : Str) : Bool := decide (1 ≤ x.length) && (decide (x.length ≤ 200) && (splitC 47 x).all partP)
theorem isPath_val {N : Nat} (hN : big ≤ N) {x : Str} (h : x.length < 1000000) : ref1_IsPath N x = some (pathB x) := by
  have hb : (18446744073709551616 : Nat) ≤ N := hN
  unfold ref1_IsPath ref1_within pathB
  rw [strings_Split_one _ _ (by omega)]
  simp only [bnd_some]
  have hl := parts_len h
  have hP := parts_le h
  generalize splitC 47 x = P at hl hP ⊢
  have h1 : ref1_IsPath_L0 N P (some true) N 0 = if P.all partP = true then some true else some false := by
    refine scan_loop partP (fun n i hi => ?_) (fun n => ?_) N (by omega)
    · show ref1_IsPath_L0T N P _ _ (i : Int) = _
      have hw : IntKind.i64.wrap ((i : Int) + 1) = ((i + 1 : Nat) : Int) := by rw [wrap_id (by omega) (by omega)]; omega
      unfold ref1_IsPath_L0T
      rw [br_pos (by omega : (i : Int) < (P.length : Int)), geti_lt P hi, bnd_some, hw, isPart_val hN (hP P[i] (List.getElem_mem _)), bnd_some]
      cases partP P[i] <;> simp
    · show ref1_IsPath_L0T N P _ _ (P.length : Int) = _
      unfold ref1_IsPath_L0T
      rw [br_neg (by omega)]
  rw [h1]
  by_cases g0 : 1 ≤ x.length
  · rw [br_pos (by omega : (x.length : Int) ≥ 1), decide_eq_true g0]
    by_cases g1 : x.length ≤ 200
    · rw [decide_eq_true (by omega : (x.length : Int) ≤ 200), decide_eq_true g1]
      cases P.all partP <;> simp
    · rw [decide_eq_false (by omega : ¬ (x.length : Int) ≤ 200), decide_eq_false g1]; simp
  · rw [br_neg (by omega : ¬ (x.length : Int) ≥ 1), decide_eq_false g0]; simp
theorem awake_n (n : Nat) : law1_awake (n + 40) = some true := by kernel_rfl
theorem awake_ok {N : Nat} (hN : big ≤ N) : law1_awake N = some true := by
  have hb : (18446744073709551616 : Nat) ≤ N := hN
  obtain ⟨n, rfl⟩ : ∃ n, N = n + 40 := ⟨N - 40, by omega⟩
  exact awake_n n
theorem isPath_long {N : Nat} {x : Str} (h : ¬ x.length < 1000000) : ref1_IsPath N x = some false := by
  unfold ref1_IsPath ref1_within
  rw [br_pos (by omega), decide_eq_false (by omega)]
  simp
theorem isPath_all {N : Nat} (hN : big ≤ N) (x : Str) : ref1_IsPath N x = some (pathB x) := by
  by_cases h : x.length < 1000000
  · exact isPath_val hN h
  · rw [isPath_long h]; unfold pathB; rw [decide_eq_false (by omega : ¬ x.length ≤ 200)]; simp
end Go.Proofs.YthlkidohpiebiaaDoor

