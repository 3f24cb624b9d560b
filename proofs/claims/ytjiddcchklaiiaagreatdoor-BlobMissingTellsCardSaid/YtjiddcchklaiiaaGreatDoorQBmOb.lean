/- slices.SortFunc of structs by their first field, a name that each has but once, out of the kit's contract: it turns a row of its caller's. For any program. -/
import Derived.Test.YtjiddcchklaiiaaGreatDoorQBmSw
import Derived.Test.YtjiddcchklaiiaaGreatDoorQFor2
import Derived.Shelf.SlSortCmp.WholeK
import Derived.Shelf.SlGeneric
import Derived.Shelf.SlSortCmp.NoneTotal
import Derived.Ground.SlsfProg
import Derived.Test.YtjiddcchklaiiaaGreatDoorProg
import Derived.Test.YtjiddcchklaiiaaGreatDoorQTsT
namespace Go.Proofs.YtjiddcchklaiiaaGreatDoor
set_option linter.unusedVariables false
set_option linter.unusedSimpArgs false
open Go Go.RowKit Go.Shelf Go.Sort
def KC (n : Nat) : Type := { p : Str × List Value // p.2.length = n ∧ ∀ v ∈ p.2, v.oneCell' = true }
instance (n : Nat) : Inhabited (KC n) := ⟨⟨([], List.replicate n (.bool false)), by simp, fun v hv => by rw [List.eq_of_mem_replicate hv]; rfl⟩⟩
def encK {n : Nat} (x : KC n) : List Value := .string ⟨x.1.1.toArray⟩ :: x.1.2
theorem encK_len {n : Nat} (x : KC n) : (encK x).length = n + 1 := by unfold encK; rw [List.length_cons, x.2.1]
theorem encK_one {n : Nat} (x : KC n) : ∀ v ∈ encK x, v.oneCell' = true := fun v hv => by
 rcases List.mem_cons.1 hv with rfl | h
 · rfl
 · exact x.2.2 v h
theorem less_isK : ∀ (x y : List UInt8), Op.bytesLess x y = decide (x < y)
 | [], [] => by simp [Op.bytesLess]
 | _ :: _, [] => by simp [Op.bytesLess]
 | [], _ :: _ => by simp [Op.bytesLess]
 | a :: x, b :: y => by
   rw [Op.bytesLess, less_isK x y]
   simp only [List.cons_lt_cons_iff]
   by_cases h1 : a < b <;> by_cases h2 : a = b <;> by_cases h3 : x < y <;> simp [h1, h2, h3]
def cfK {n : Nat} (x y : KC n) : Int := if Op.bytesLess x.1.1 y.1.1 = true then -1 else if x.1.1 = y.1.1 then 0 else 1
theorem lt_cfK {n : Nat} (x y : KC n) : ltOf cfK x y = decide (x.1.1 < y.1.1) := by
 unfold ltOf cfK
 rw [less_isK]
 by_cases h : x.1.1 < y.1.1
 · simp [h]
 · by_cases h2 : x.1.1 = y.1.1
   · simp [h2, str_lt_irrefl y.1.1]
   · simp [h, h2]
theorem swo_cfK {n : Nat} : Sort.SWO (ltOf (cfK (n := n))) where
 irrefl x := by rw [lt_cfK]; exact decide_eq_false (str_lt_irrefl _)
 trans x y z h1 h2 := by
   rw [lt_cfK] at *
   simp only [decide_eq_true_eq] at *
   exact str_lt_trans h1 h2
 ntrans x y z h1 h2 := by
   rw [lt_cfK] at *
   simp only [decide_eq_false_iff_not] at *
   exact fun h => absurd (List.le_trans (List.not_lt.1 h2) (List.not_lt.1 h1)) (List.not_le.2 h)
theorem flat_listK {n : Nat} {ks : List (KC n)} : ∀ t, t < ks.length * (n + 1) → (flatK encK (n + 1) ks.toArray).toList[t]? = (encK (ks[t / (n + 1)]?.getD default))[t % (n + 1)]? := fun t ht => by
 have hs : t < (flatK encK (n + 1) ks.toArray).size := by rw [size_flatK]; simpa using ht
 have hi : t / (n + 1) < ks.length := Nat.div_lt_of_lt_mul (by rw [Nat.mul_comm]; exact ht)
 have h2 : t % (n + 1) < n + 1 := Nat.mod_lt _ (Nat.zero_lt_succ n)
 rw [Array.getElem?_toList, Array.getElem?_eq_getElem hs, ← getElem!_pos _ t hs, get_flatK _ _ _ _ (by simpa using ht)]
 rw [List.getElem?_eq_getElem hi]
 have e1 : ks.toArray[t / (n + 1)]! = ks[t / (n + 1)] := by simp [hi]
 rw [e1]
 have hl : t % (n + 1) < (encK ks[t / (n + 1)]).length := by rw [encK_len]; exact h2
 rw [getElem!_pos (encK ks[t / (n + 1)]) (t % (n + 1)) hl, Option.getD_some, List.getElem?_eq_getElem hl]
theorem flat_part {n : Nat} (ks : List (KC n)) {i : Nat} (h : i < ks.length) : ((flatK encK (n + 1) ks.toArray).toList.drop (i * (n + 1))).take (n + 1) = encK ks[i] := by
 apply List.ext_getElem?
 intro t
 rw [List.getElem?_take]
 by_cases ht : t < n + 1
 · have hlt : i * (n + 1) + t < ks.length * (n + 1) := by
     have : (i + 1) * (n + 1) ≤ ks.length * (n + 1) := Nat.mul_le_mul_right _ h
     rw [Nat.succ_mul] at this
     omega
   rw [if_pos ht, List.getElem?_drop, flat_listK _ hlt]
   have e1 : (i * (n + 1) + t) / (n + 1) = i := by rw [Nat.mul_comm, Nat.mul_add_div (Nat.zero_lt_succ n), Nat.div_eq_of_lt ht, Nat.add_zero]
   have e2 : (i * (n + 1) + t) % (n + 1) = t := by rw [Nat.mul_comm, Nat.mul_add_mod, Nat.mod_eq_of_lt ht]
   rw [e1, e2, List.getElem?_eq_getElem h, Option.getD_some]
 · rw [if_neg ht, List.getElem?_eq_none (by rw [encK_len]; omega)]
def RepK (M : Nat → Nat → Prop) (w : World) (t : Ty) (x : Str × t.den) (c : KC t.sz) : Prop := c.1.1 = x.1 ∧ RepC M w t x.2 c.1.2
theorem els_split {M : Nat → Nat → Prop} {w : World} {t : Ty} : ∀ {xs : List (Str × t.den)} {cs : List Value}, cs.length = xs.length * (t.sz + 1) → Els M w (.pr .str t) xs cs → ∃ ks : List (KC t.sz), All2 (RepK M w t) xs ks ∧ cs = (flatK encK (t.sz + 1) ks.toArray).toList := by
 intro xs cs hl h
 have h1 : ∀ i (hi : i < xs.length), ∃ c : KC t.sz, RepK M w t xs[i] c ∧ (cs.drop (i * (t.sz + 1))).take (t.sz + 1) = encK c := fun i hi => by
   have h2 := h i hi
   have hsz : (Ty.pr .str t).sz = t.sz + 1 := by show 1 + t.sz = _; omega
   rw [hsz] at h2
   obtain ⟨c1, c2, e, h3, h4⟩ := h2
   rw [show c1 = [Value.string ⟨xs[i].1.toArray⟩] from h3] at e
   exact ⟨⟨(xs[i].1, c2), RepC.len t _ _ h4, RepC.one t _ _ h4⟩, ⟨rfl, h4⟩, e⟩
 let ks : List (KC t.sz) := (List.range xs.length).map fun i => if hi : i < xs.length then (h1 i hi).choose else default
 have hkl : ks.length = xs.length := by simp [ks]
 have hk : ∀ i (hi : i < xs.length), ks[i]'(by rw [hkl]; exact hi) = (h1 i hi).choose := fun i hi => by simp [ks, hi]
 refine ⟨ks, ?_, ?_⟩
 · have gen : ∀ (l : List (Str × t.den)) (m : List (KC t.sz)), l.length = m.length → (∀ i (hi : i < l.length) (hj : i < m.length), RepK M w t l[i] m[i]) → All2 (RepK M w t) l m := by
     intro l
     induction l with
     | nil => intro m hm _; cases m with | nil => trivial | cons _ _ => cases hm
     | cons a l ih =>
       intro m hm hr
       cases m with
       | nil => cases hm
       | cons b m => exact ⟨hr 0 (by simp) (by simp), ih m (by simpa using hm) fun i hi hj => hr (i + 1) (Nat.succ_lt_succ hi) (Nat.succ_lt_succ hj)⟩
   refine gen xs ks hkl.symm fun i hi hj => ?_
   rw [hk i hi]
   exact (h1 i hi).choose_spec.1
 · apply List.ext_getElem?
   intro u
   by_cases hu : u < xs.length * (t.sz + 1)
   · have hi : u / (t.sz + 1) < xs.length := Nat.div_lt_of_lt_mul (by rw [Nat.mul_comm]; exact hu)
     rw [flat_listK u (by rw [hkl]; exact hu), List.getElem?_eq_getElem (l := ks) (i := u / (t.sz + 1)) (by rw [hkl]; exact hi), Option.getD_some, hk _ hi, ← (h1 _ hi).choose_spec.2, List.getElem?_take, if_pos (Nat.mod_lt _ (Nat.zero_lt_succ _)), List.getElem?_drop]
     congr 1
     rw [Nat.mul_comm]
     exact (Nat.div_add_mod u (t.sz + 1)).symm
   · rw [List.getElem?_eq_none (by omega), List.getElem?_eq_none (by rw [Array.length_toList, size_flatK]; simp only [List.size_toArray]; rw [hkl]; omega)]
theorem els_join {M : Nat → Nat → Prop} {w : World} {t : Ty} {xs : List (Str × t.den)} {ks : List (KC t.sz)} (h : All2 (RepK M w t) xs ks) : Els M w (.pr .str t) xs (flatK encK (t.sz + 1) ks.toArray).toList := fun i hi => by
 have hsz : (Ty.pr .str t).sz = t.sz + 1 := by show 1 + t.sz = _; omega
 rw [hsz]
 have hik : i < ks.length := by rw [← h.len]; exact hi
 rw [flat_part ks hik]
 obtain ⟨c, hc, h1, h2⟩ := h.get (List.getElem?_eq_getElem hi)
 rw [List.getElem?_eq_getElem hik] at hc
 injection hc with hc
 rw [hc]
 exact ⟨[Value.string ⟨xs[i].1.toArray⟩], c.1.2, by unfold encK; rw [h1]; rfl, rfl, h2⟩
def sortK {α : Type} (key : α → Str) (xs : List α) : Option (List α) := if xs.length < 4611686018427387904 ∧ (xs.map key).Nodup then some (xs.mergeSort (leKey key)) else none
theorem sortK_sound {P : Program} {G : World → Prop} {B0 : Nat} {f g : FuncId} {e : TypeId} {t : Ty} (hcall : ∀ (args : Array Value) (w : World), (callFunc f args).run P w = .ok (.enter f args) w)
   (hB : ∀ (b cap : Nat) (d : Array (KC t.sz)) (w : World), HoldsK encK (t.sz + 1) w b 0 d → b < w.heap.size → d.size < 4611686018427387904 → Calls P f #[.slice (some ⟨b, 0, none⟩) d.size cap, .func (.func g) #[] #[]] w fun e w' =>
     e = .returned (.tuple #[]) ∧ ∃ d' m os, PermIn 0 d.size d d' ∧ SortedIn (ltOf cfK) 0 d.size d' ∧ w' = sortWorldK encK (t.sz + 1) w b 0 m d' os)
   (h0 : ∀ w, Calls P f #[.slice none 0 0, .func (.func g) #[] #[]] w fun e w' => e = .returned (.tuple #[]) ∧ w' = w) :
   Sound P G B0 f ⟨[.row 0, .v (.clo g .un)], [.row e (.pr .str t) true], [], [.row e (.pr .str t) true, .none], List (Str × t.den), fun z => ((), (z, ((), ()))), fun x y => sortK (fun p : Str × t.den => p.1) y.1⟩ := by
 have hsz : (Ty.pr .str t).sz = t.sz + 1 := by show 1 + t.sz = _; omega
 refine Sound.ofRowKept (ps := [.v (.clo g .un)]) (t := .pr .str t) (F := fun x xs => sortK (fun p : Str × t.den => p.1) xs) hcall (by rw [hsz]; omega) fun M w g' v0 vs x xs zs cs hG hMl hM hown hels hA hz => ?_
 match vs, hA with
 | [v1], hA =>
   obtain ⟨h1, _⟩ := hA
   have h3 := RepV.plain (t := .clo g .un) rfl h1
   obtain ⟨caps, h4, h5⟩ := h3
   injection h4 with h4
   have h6 : caps = #[] := by
     have : caps.toList = [] := h5
     exact Array.toList_eq_nil_iff.1 this
   subst h6
   rw [h4]
   change sortK (fun p : Str × t.den => p.1) xs = some zs at hz
   unfold sortK at hz
   split at hz
   case isFalse => cases hz
   rename_i hc
   obtain ⟨hbig, hnd⟩ := hc
   injection hz with hz
   have hl : cs.length = xs.length * (t.sz + 1) := by have := hown.1; rw [hsz] at this; exact this
   obtain ⟨ks, hks, hcs⟩ := els_split hl hels
   have hkl : ks.length = xs.length := hks.len.symm
   have hzl : zs.length = xs.length := by rw [← hz]; exact List.length_mergeSort _
   rcases hown.2 with ⟨e1, e2⟩ | ⟨b, cap, cur, e1, _, hg, hle, hmax, hszc, htk⟩
   · have hx0 : xs = [] := List.eq_nil_of_length_eq_zero e2
     subst hx0 e1
     refine (h0 w).mono fun e w' hp => ?_
     obtain ⟨rfl, rfl⟩ := hp
     have hz0 : zs = [] := List.eq_nil_of_length_eq_zero hzl
     subst hz0
     exact ⟨[], rfl, ExtX.refl _ _, ⟨by simp, .inl ⟨rfl, rfl⟩⟩, fun i h => absurd h (Nat.not_lt_zero _)⟩
   · subst e1
     rw [hsz] at hszc
     have htk' : cur.toList.take (xs.length * (t.sz + 1)) = (flatK encK (t.sz + 1) ks.toArray).toList := by
       rw [← hcs, ← htk]
       rw [hsz]
     have hb : b < w.heap.size := by
       apply Classical.byContradiction
       intro hn
       rw [Array.getElem?_eq_none (by omega)] at hg
       cases hg
     have hH : HoldsK encK (t.sz + 1) w b 0 ks.toArray := fun k hk => by
       have hk' : k < xs.length * (t.sz + 1) := by rw [size_flatK] at hk; simpa [hkl] using hk
       have h1 : cur.toList[k]? = some ((flatK encK (t.sz + 1) ks.toArray)[k]!) := by
         have := congrArg (fun l => l[k]?) htk'
         simp only [List.getElem?_take, hk', if_true, Array.getElem?_toList, Array.getElem?_eq_getElem hk] at this
         rw [getElem!_pos _ k hk]
         simpa using this
       refine ⟨?_, by unfold World.frozen?; rw [hg]; simp⟩
       rw [Nat.zero_add]
       unfold World.cell?
       rw [hg]
       simpa using h1
     have hcon := hB b cap ks.toArray w hH hb (by simpa [hkl] using hbig)
     rw [show ks.toArray.size = xs.length from by simp [hkl]] at hcon
     refine hcon.mono fun e w' hp => ?_
     obtain ⟨rfl, d', n, os, ⟨hps, _, hpp⟩, hso, rfl⟩ := hp
     have hps' : d'.size = xs.length := by rw [hps]; simp [hkl]
     have hrel : All2 (RepK M w t) zs d'.toList := by
       rw [← hz]
       refine sort_rel (key := fun p : Str × t.den => p.1) (key' := fun c : KC t.sz => c.1.1) hks (fun x c h => h.1) hnd ?_ ?_
       · have e1 : (d'.extract 0 xs.length) = d' := by rw [← hps']; exact Array.extract_size
         have e2 : (ks.toArray.extract 0 xs.length) = ks.toArray := by rw [show xs.length = ks.toArray.size from by simp [hkl]]; exact Array.extract_size
         rw [e1, e2] at hpp
         simpa using hpp
       · rw [List.pairwise_iff_getElem]
         intro i j hi hj hij
         have := hso i j (Nat.zero_le _) hij (by rw [Array.length_toList] at hj; rw [← hps']; exact hj)
         rw [lt_cfK] at this
         rw [Array.length_toList] at hi hj
         rw [getElem!_pos d' i hi, getElem!_pos d' j hj] at this
         simpa using this
     obtain ⟨dl, rfl⟩ : ∃ dl : List (KC t.sz), d' = dl.toArray := ⟨d'.toList, by simp⟩
     have hrel' : All2 (RepK M w t) zs dl := by simpa using hrel
     have hdl : dl.length = xs.length := by rw [← hrel'.len, hzl]
     refine ⟨(flatK encK (t.sz + 1) dl.toArray).toList, rfl, (sortW_ext id).mono (fun k hk => by simpa [Value.ownBlock] using hk), ⟨by rw [Array.length_toList, size_flatK, hsz]; simp [hdl, hzl], .inr ⟨b, cap, _, by rw [hzl], Nat.zero_le _, sortW_block id hg, by omega, hmax, ?_, ?_⟩⟩, els_join hrel'⟩
     · rw [putCells_size, hsz]; exact hszc
     · have hle' : (flatK encK (t.sz + 1) dl.toArray).toList.length ≤ cur.size := by
         rw [Array.length_toList, size_flatK, hszc]
         simp only [List.size_toArray]
         rw [hdl]
         exact Nat.mul_le_mul_right _ hle
       have h9 := putCells_take id (flatK encK (t.sz + 1) dl.toArray).toList cur hle'
       rw [Array.length_toList, size_flatK, Array.toArray_toList, List.map_id] at h9
       rw [hsz, hzl]
       simpa [hdl] using h9
end Go.Proofs.YtjiddcchklaiiaaGreatDoor


/-
 DERIVED: THE SHELF's CONTRACTS AT THIS DUMP, IN PLAIN WORDS (tools/lay-plain.mjs out of 'TryzShelfO.lean', which tools/lay-shelf.mjs wrote): THE SAME DECLARATIONS UNDER THE SAME NAMES: 'import', 'namespace', 'open', 'def', 'theorem' AND NOTHING ELSE: no command of the shelf's: FOR A HAND-IN. Each laying: the table of numbers ('.._ren') and one theorem, a field a fact of the dump's own or the kernel's comparison; each contract: ONE APPLICATION.
-/
namespace Go.Proofs
open Go.Shelf
def Tryz.sortO_ren : Go.Shelf.Ren := ⟨fun | 6 => 16 | 15 => 36 | 14 => 35 | 28 => 64 | 29 => 65 | 20 => 56 | 21 => 57 | 22 => 58 | 23 => 59 | 24 => 60 | 25 => 61 | 26 => 62 | 27 => 63 | 46 => 90 | 47 => 91 | 48 => 92 | 49 => 93 | 50 => 94 | 57 => 117 | n => n, fun | 22 => 23 | 24 => 38 | 25 => 50 | 3 => 3 | 39 => 84 | 0 => 0 | 53 => 114 | 55 => 85 | 4 => 4 | 46 => 108 | 45 => 107 | 50 => 95 | 5 => 5 | 9 => 9 | 66 => 131 | 70 => 135 | 76 => 152 | 77 => 153 | n => n, fun | n => n⟩
theorem Tryz.sortO : Go.Proofs.SlLaysF0.n6 Tryz.prog Tryz.sortO_ren := {
 mixed := by kernel_rfl
 f6 := ⟨Tryz.f16.name, by decide, Tryz.func16.trans (congrArg some (by kernel_rfl))⟩
 f14 := ⟨Tryz.f35.name, by decide, Tryz.func35.trans (congrArg some (by kernel_rfl))⟩
 f15 := Tryz.func36.trans (congrArg some (by kernel_rfl))
 f20 := ⟨Tryz.f56.name, by decide, Tryz.func56.trans (congrArg some (by kernel_rfl))⟩
 f21 := ⟨Tryz.f57.name, by decide, Tryz.func57.trans (congrArg some (by kernel_rfl))⟩
 f22 := ⟨Tryz.f58.name, by decide, Tryz.func58.trans (congrArg some (by kernel_rfl))⟩
 f23 := ⟨Tryz.f59.name, by decide, Tryz.func59.trans (congrArg some (by kernel_rfl))⟩
 f24 := ⟨Tryz.f60.name, by decide, Tryz.func60.trans (congrArg some (by kernel_rfl))⟩
 f25 := ⟨Tryz.f61.name, by decide, Tryz.func61.trans (congrArg some (by kernel_rfl))⟩
 f26 := ⟨Tryz.f62.name, by decide, Tryz.func62.trans (congrArg some (by kernel_rfl))⟩
 f27 := ⟨Tryz.f63.name, by decide, Tryz.func63.trans (congrArg some (by kernel_rfl))⟩
 f28 := Tryz.func64.trans (congrArg some (by kernel_rfl))
 f29 := Tryz.func65.trans (congrArg some (by kernel_rfl))
 f46 := ⟨Tryz.f90.name, by decide, Tryz.func90.trans (congrArg some (by kernel_rfl))⟩
 f47 := Tryz.func91.trans (congrArg some (by kernel_rfl))
 f48 := Tryz.func92.trans (congrArg some (by kernel_rfl))
 f49 := ⟨Tryz.f93.name, by decide, Tryz.func93.trans (congrArg some (by kernel_rfl))⟩
 f50 := ⟨Tryz.f94.name, by decide, Tryz.func94.trans (congrArg some (by kernel_rfl))⟩
 f57 := ⟨Tryz.f117.name, by decide, Tryz.func117.trans (congrArg some (by kernel_rfl))⟩
 t0 := Tryz.underlying0
 a0 := Tryz.isAgg0
 z0 := Tryz.sizeOf0
 v0 := Tryz.zeroValue0
 t3 := Tryz.underlying3
 a3 := Tryz.isAgg3
 z3 := Tryz.sizeOf3
 v3 := Tryz.zeroValue3
 t4 := Tryz.underlying4
 a4 := Tryz.isAgg4
 z4 := Tryz.sizeOf4
 v4 := Tryz.zeroValue4
 t5 := Tryz.underlying5
 a5 := Tryz.isAgg5
 z5 := Tryz.sizeOf5
 v5 := Tryz.zeroValue5
 t9 := Tryz.underlying9
 a9 := Tryz.isAgg9
 z9 := Tryz.sizeOf9
 v9 := Tryz.zeroValue9
 t22 := Tryz.underlying23
 a22 := Tryz.isAgg23
 z22 := Tryz.sizeOf23
 v22 := Tryz.zeroValue23
 t25 := Tryz.underlying50
 a25 := Tryz.isAgg50
 z25 := Tryz.sizeOf50
 v25 := Tryz.zeroValue50
 t39 := Tryz.underlying84
 a39 := Tryz.isAgg84
 z39 := Tryz.sizeOf84
 v39 := Tryz.zeroValue84
 t45 := Tryz.underlying107
 a45 := Tryz.isAgg107
 z45 := Tryz.sizeOf107
 v45 := Tryz.zeroValue107
 t46 := Tryz.underlying108
 a46 := Tryz.isAgg108
 z46 := Tryz.sizeOf108
 v46 := Tryz.zeroValue108
 t50 := Tryz.underlying95
 a50 := Tryz.isAgg95
 z50 := Tryz.sizeOf95
 v50 := Tryz.zeroValue95
 t53 := Tryz.underlying114
 a53 := Tryz.isAgg114
 z53 := Tryz.sizeOf114
 v53 := Tryz.zeroValue114
 t55 := Tryz.underlying85
 a55 := Tryz.isAgg85
 z55 := Tryz.sizeOf85
 v55 := Tryz.zeroValue85
 t66 := Tryz.underlying131
 a66 := Tryz.isAgg131
 z66 := Tryz.sizeOf131
 v66 := Tryz.zeroValue131
 t70 := Tryz.underlying135
 a70 := Tryz.isAgg135
 z70 := Tryz.sizeOf135
 v70 := Tryz.zeroValue135
 t76 := Tryz.underlying152
 a76 := Tryz.isAgg152
 z76 := Tryz.sizeOf152
 v76 := Tryz.zeroValue152
 t77 := Tryz.underlying153
 a77 := Tryz.isAgg153
 z77 := Tryz.sizeOf153
 v77 := Tryz.zeroValue153 }
end Go.Proofs


/- slices.SortFunc of objects by their digests, out of the kit's contract: it turns a row of its caller's. -/
namespace Go.Proofs.YtjiddcchklaiiaaGreatDoor
set_option linter.unusedVariables false
set_option linter.unusedSimpArgs false
open Go Go.RowKit Go.Shelf Go.Sort
theorem compare_cf : ∀ a b : Str, Lib.compareBytes a b = if Op.bytesLess a b = true then -1 else if a = b then 0 else 1
 | [], [] => by simp [Lib.compareBytes, Op.bytesLess]
 | [], _ :: _ => by simp [Lib.compareBytes, Op.bytesLess]
 | _ :: _, [] => by simp [Lib.compareBytes, Op.bytesLess]
 | a :: x, b :: y => by
   rw [Lib.compareBytes, compare_cf x y, Op.bytesLess]
   by_cases h1 : a < b
   · simp [h1]
   · by_cases h2 : b < a
     · have : a ≠ b := fun e => by subst e; exact h1 h2
       simp [h1, h2, this]
     · have e : a = b := by
         have h3 := UInt8.le_antisymm (UInt8.not_lt.1 h2) (UInt8.not_lt.1 h1)
         exact h3
       subst e
       simp
theorem treeOf1_calls (x y : KC 1) (W : World) : Calls Tryz.prog 17 #[.agg (encK x).toArray, .agg (encK y).toArray] W fun e w' => e = .returned (.int .i64 (cfK x y)) ∧ ∃ q os', w' = Sort.grow (W.drewN q) os' := by
 obtain ⟨⟨xs, xc⟩, hx1, hx2⟩ := x
 obtain ⟨⟨ys, yc⟩, hy1, hy2⟩ := y
 match xc, hx1, yc, hy1 with
 | [x1], _, [y1], _ =>
   have e1 : (Value.agg #[.string ⟨xs.toArray⟩, x1]).cells = #[.string ⟨xs.toArray⟩, x1] := rfl
   unfold cfK encK
   dsimp only
   rw [← compare_cf]
   go_enter Tryz.func17, Tryz.ntmps17
   go_wp2_with fail
   refine (Tryz.strings_Compare _ _ _).mono ?_
   rintro e w1 ⟨rfl, rfl⟩
   go_wp2_with fail
   all_goals go_ret
   all_goals exact ⟨by simp_all, 0, _, by rw [Sort.alloc_eq_grow, Sort.alloc_eq_grow, Sort.grow_grow]; rfl⟩
theorem aggO : ∀ w, (isAgg 38).run Tryz.prog w = .ok true w := by
 intro w; kernel_rfl
theorem sizeO : ∀ w, (Go.sizeOf 38).run Tryz.prog w = .ok 2 w := by
 intro w; kernel_rfl
def slices_SortFunc_object (_u : Unit) (xs : List (Str × List UInt8)) : Option (List (Str × List UInt8)) := sortK (fun p : Str × List UInt8 => p.1) xs
theorem z12sound : Sound Tryz.prog GW B0G 16 ⟨[.row 0, .v (.clo 17 .un)], [.row 38 (.pr .str (.sl .u8)) true], [], [.row 38 (.pr .str (.sl .u8)) true, .none], List (Str × List UInt8), fun z => ((), (z, ((), ()))), fun x y => slices_SortFunc_object x.2.1 y.1⟩ :=
 sortK_sound (t := .sl .u8) Tryz.call16 (fun b cap d w hH hb hs => by
   have eg : ∀ args w, (callFunc 17 args).run Tryz.prog w = .ok (.enter 17 args) w := Tryz.call17
   exact AnyQ.slices_SortFunc Tryz.sortO 2 aggO sizeO encK encK_len encK_one cfK swo_cfK 17 #[] b 0 cap d w eg (fun _ _ _ _ x y => treeOf1_calls x y _) hH hb hs)
   (fun w => AnyF.slices_SortFunc_none Tryz.sortO none 0 _ w)
end Go.Proofs.YtjiddcchklaiiaaGreatDoor


