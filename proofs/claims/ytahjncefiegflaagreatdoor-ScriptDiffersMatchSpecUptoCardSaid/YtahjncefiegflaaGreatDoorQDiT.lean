/- slices.Insert of one string ahead of a row of the call's own, out of the kit's contracts. -/
import Derived.Test.YtahjncefiegflaaGreatDoorQCnV
import Derived.Test.YtahjncefiegflaaGreatDoorQShelfI
import Derived.Test.YtahjncefiegflaaGreatDoorQFor2
import Derived.Shelf.SlGeneric
import Derived.Shelf.SlSortCmp.WholeK
import Derived.Shelf.SlSortCmp.NoneTotal
import Derived.Ground.SlsfProg
import Derived.Test.YtahjncefiegflaaGreatDoorProg
import Derived.Test.YtahjncefiegflaaGreatDoorQBmDf
namespace Go.Proofs.YtahjncefiegflaaGreatDoor
open Go Go.RowKit
abbrev τ0 : Type := Str × GValue
abbrev τ1 : Ty := .sl (.pr .str (.rc .value))
abbrev τ2 : Type := Str × Str × List τ0
abbrev τ3 : Ty := .pr .str (.pr .str τ1)
abbrev τ4 : Type := Str × Int × List Str
abbrev τ5 : Ty := .int .i64
abbrev τ6 : Ty := .rc .value
abbrev τ7 : Ty := .pr .str (.pr τ5 (.sl .str))
abbrev τ8 : Type := List τ0
abbrev τ9 : Type := Int × List τ4
abbrev τ10 : Type := List Str
abbrev τ11 : Ty := .pr .str τ6
abbrev τ12 : Ty := .pr .str (.sl τ3)
abbrev τ13 : Ty := .sl .str
abbrev τ14 : Type := Str × τ2
abbrev τ15 : Type := List τ2
abbrev τ16 : Type := GValue × Bool × Int
end Go.Proofs.YtahjncefiegflaaGreatDoor
namespace Go.Proofs.YtahjncefiegflaaGreatDoor
set_option linter.unusedVariables false
set_option linter.unusedSimpArgs false
open Go Go.RowKit Go.Shelf Go.Lib
section
theorem els_one {M : Nat → Nat → Prop} {w : World} {t : Ty} (hz : 0 < t.sz) {xs : List t.den} {cs : List Value} (hl : cs.length = xs.length * t.sz) (h : Els M w t xs cs) : ∀ v ∈ cs, v.oneCell' = true := fun v hv => by
 obtain ⟨k, hk, rfl⟩ := List.getElem_of_mem hv
 have hd : k / t.sz < xs.length := by rw [Nat.div_lt_iff_lt_mul hz]; omega
 refine RepC.one _ _ _ (h (k / t.sz) hd) _ ?_
 have hm := Nat.mod_lt k hz
 have hk2 : k / t.sz * t.sz + k % t.sz = k := by rw [Nat.mul_comm]; exact Nat.div_add_mod k t.sz
 refine List.mem_of_getElem? (i := k % t.sz) ?_
 rw [List.getElem?_take, if_pos hm, List.getElem?_drop, hk2, List.getElem?_eq_getElem hk]
theorem Els.append {M : Nat → Nat → Prop} {w : World} {t : Ty} {xs ys : List t.den} {cs ds : List Value} (hl : cs.length = xs.length * t.sz) (hx : Els M w t xs cs) (hy : Els M w t ys ds) : Els M w t (xs ++ ys) (cs ++ ds) := fun i h => by
 rcases Nat.lt_or_ge i xs.length with hi | hi
 · have hb : i * t.sz + t.sz ≤ xs.length * t.sz := by
     have : (i + 1) * t.sz ≤ xs.length * t.sz := Nat.mul_le_mul_right _ hi
     rw [Nat.add_mul] at this; omega
   rw [List.getElem_append_left hi, List.drop_append_of_le_length (by omega), List.take_append_of_le_length (by rw [List.length_drop]; omega)]
   exact hx i hi
 · have hi2 : i - xs.length < ys.length := by rw [List.length_append] at h; omega
   have hb : xs.length * t.sz ≤ i * t.sz := Nat.mul_le_mul_right _ hi
   have := hy (i - xs.length) hi2
   rw [List.getElem_append_right hi]
   have e : (cs ++ ds).drop (i * t.sz) = ds.drop ((i - xs.length) * t.sz) := by
     rw [List.drop_append, List.drop_eq_nil_of_le (by omega), List.nil_append, hl, Nat.sub_mul]
   rw [e]; exact this
def slices_Insert_string (i : Int) (xs ys : List Str) : Option τ10 :=
 if i = 0 ∧ ys.length = 1 ∧ (xs.length + 1) * (24 * Ty.sz .str) ≤ 140737488355328 then some (ys ++ xs) else none
theorem z18sound : Sound Tryz.prog GW B0G 109 ⟨[.row 0, .v τ5, .row 1], [.row 9 .str true, .row 9 .str false], [.row 0], [.row 9 .str true, .none], List Str, fun z => (((), ()), (z, ((), ()))), fun x y => slices_Insert_string x.2.1 y.1 y.2.1⟩ := by
 refine Sound.ofRow2 (tt := .int .i64) (t := .str) true (F := slices_Insert_string) Tryz.call109 (by decide) fun M w g v0 vi x v1 xs ys zs cs cys hG hMl hM hown hels hownY helsY hne hi hz => ?_
 obtain rfl : vi = .int .i64 x := RepV.int hi
 unfold slices_Insert_string at hz
 split at hz
 · rename_i hc
   injection hz with hz
   obtain ⟨rfl, hy1, hbig⟩ := hc
   replace hbig : (xs.length + 1) * 24 ≤ 140737488355328 := hbig
   have hsz : Ty.sz .str = 1 := rfl
   have hl := hown.1
   have hlY := hownY.1
   have h1c := els_one (by decide) hl hels
   have h1v := els_one (by decide) hlY helsY
   rw [hsz, Nat.mul_one] at hl hlY
   rw [hy1] at hlY hownY
   have hzl : zs.length = xs.length + 1 := by rw [← hz, List.length_append, hy1]; omega
   have hZ : Els M w .str zs (cys ++ cs) := by
     rw [← hz]
     exact Els.append (by rw [hlY, hy1]; rfl) helsY hels
   rcases hownY.2 with ⟨_, e2⟩ | ⟨vb, vc, vcur, e1, _, hgv, hvle, hvmax, hvsz, hvtk⟩
   · cases e2
   · subst e1
     have hvs : ∀ j v, cys[j]? = some v → w.cell? ⟨vb, 0 + j, none⟩ = some v := fun j v hj => by
       rw [Nat.zero_add]
       rw [← hvtk, List.getElem?_take] at hj
       split at hj
       · unfold World.cell?; rw [hgv]; simpa using hj
       · cases hj
     by_cases hx0 : xs = []
     · subst hx0
       have hcs0 : cs = [] := List.eq_nil_of_length_eq_zero hl
       subst hcs0
       rw [List.append_nil] at hZ hz
       have fresh : ∀ (c : Nat) (A : Option Addr), (A = none → (0 : Nat) = 0) → c < 1 → ∀ e w', e = Ending.returned (.slice (some ⟨w.heap.size, 0, none⟩) (0 + 1) (grownCap w (0 + 1) c 9)) ∧ w' = w.drew.alloc (.cells ((([] : List Value) ++ cys).toArray ++ Builtin.zeroCells (Value.string ⟨#[]⟩).cells (grownCap w (0 + 1) c 9 - (0 + 1))) 9) →
           ∃ v' cs', e = .returned (backV true v') ∧ (true = false → v' = .slice A 0 c) ∧ ExtX (fun b => (Value.slice A 0 c).ownBlock = some b) w w' ∧ w'.ownsRow 0 9 (Ty.sz .str) v' zs.length cs' ∧ Els M w .str zs cs' ∧ ∀ b, v'.ownBlock = some b → (Value.slice A 0 c).ownBlock = some b ∨ w.heap.size ≤ b := by
         intro c A _ hc e w' hp
         obtain ⟨rfl, rfl⟩ := hp
         have hg1 : 0 + 1 ≤ grownCap w (0 + 1) c 9 := grownCap_ge w _ _ _
         have hg2 : grownCap w (0 + 1) c 9 ≤ maxLen := grownCap_le_maxLen w _ _ _ (by unfold maxLen; omega)
         generalize grownCap w (0 + 1) c 9 = G at hg1 hg2 ⊢
         refine ⟨_, cys, rfl, fun h => (by cases h), ExtX.of_ext ((Ext.refl w).drew.alloc _), ⟨?_, .inr ⟨w.heap.size, G, _, by rw [hzl]; rfl, Nat.zero_le _, heap_alloc_new w.drew _, by rw [hzl]; exact hg1, hg2, ?_, ?_⟩⟩, hZ, fun b hb => .inr ?_⟩
         · rw [hzl, hlY]; rfl
         · simp [size_zeroCells, hlY, hsz, Value.cells]; omega
         · rw [hzl]
           simp only [List.nil_append, Array.toList_append]
           exact List.take_left' (by rw [hlY]; rfl)
         · simp only [Value.ownBlock, Option.some.injEq] at hb; omega
       rcases hown.2 with ⟨e1, _⟩ | ⟨b, c, cur, e1, _, hg, hle, hmax, hcsz, htk⟩
       · subst e1
         exact (Any2.slices_Insert_string_end_grow Tryz.insertS none 0 0 vb 0 1 vc [] cys w (by decide) (by decide) (by decide) (by decide) rfl (by omega) (fun _ => rfl) (fun a h => by cases h) hvs h1v).mono fun e w' hp => fresh 0 none (fun _ => rfl) (by decide) e w' hp
       · subst e1
         rcases Nat.lt_or_ge c 1 with hc | hc
         · exact (Any2.slices_Insert_string_end_grow Tryz.insertS (some ⟨b, 0, none⟩) 0 c vb 0 1 vc [] cys w (by decide) (by omega) (by omega) (by decide) rfl (by omega) (fun h => by cases h) (fun a h j v hj => by simp at hj) hvs h1v).mono fun e w' hp => fresh c (some ⟨b, 0, none⟩) (fun _ => rfl) hc e w' hp
         · rw [hsz, Nat.mul_one] at hcsz
           refine (Any2.slices_Insert_string_end_room Tryz.insertS b 0 0 c vb 0 1 vc cys w (by decide) (by omega) (by unfold maxLen at hmax; omega) (by omega) (fun j hj => by
             rw [show 0 + 0 + j = j by omega]
             unfold World.cell?
             rw [hg]
             simp [show j < cur.size by omega]) (fun j hj => by unfold World.frozen?; rw [hg]; simp) hvs h1v).mono fun e w' hp => ?_
           obtain ⟨rfl, rfl⟩ := hp
           have hb1 := setCells_block b 9 (0, 0) cys (0 + 0) w cur hg (by rw [hlY]; omega)
           refine ⟨_, cys, rfl, fun h => (by cases h), ?_, ⟨?_, .inr ⟨b, c, _, by rw [hzl]; rfl, Nat.zero_le _, hb1, by rw [hzl]; exact hc, hmax, ?_, ?_⟩⟩, hZ, fun b hb => .inl hb⟩
           · refine ⟨?_, ?_, ?_, ?_, fun k hk hkb => ?_⟩
             · rw [(setCells_tape _ _ _ _).2.1]
             · rw [(setCells_tape _ _ _ _).1]
             · rw [(setCells_tape _ _ _ _).2.2]
             · rw [setCells_size]; exact Nat.le_refl _
             · have hkb' : k ≠ b := fun e => hkb (by rw [e]; rfl)
               rw [setCells_other _ _ _ _ _ hkb']
           · rw [hzl, hlY]; rfl
           · simp only [List.size_toArray, List.length_append, List.length_take, List.length_drop, Array.length_toList, hcsz, hlY, hsz]; omega
           · rw [hzl]
             simp only [Nat.add_zero, List.take_zero, List.nil_append]
             exact List.take_left' (by rw [hlY]; rfl)
     · have hn0 : 0 < xs.length := List.length_pos_iff.2 hx0
       rcases hown.2 with ⟨_, e2⟩ | ⟨b, c, cur, e1, _, hg, hle, hmax, hcsz, htk⟩
       · omega
       · subst e1
         rw [hsz, Nat.mul_one] at hcsz
         have htk' : cur.toList.take xs.length = cs := by rw [← htk, hsz, Nat.mul_one]
         have hcs : ∀ j v, cs[j]? = some v → w.cell? ⟨b, 0 + j, none⟩ = some v := fun j v hj => by
           rw [Nat.zero_add]
           rw [← htk', List.getElem?_take] at hj
           split at hj
           · unfold World.cell?; rw [hg]; simpa using hj
           · cases hj
         rcases Nat.lt_or_ge c (xs.length + 1) with hroom | hroom
         · refine (Any2.slices_Insert_string_grow Tryz.insertS b 0 xs.length c 0 vb 0 1 vc cs cys w hn0 (by decide) hle hroom (by omega) hl (by omega) hcs hvs h1c h1v).mono fun e w' hp => ?_
           obtain ⟨rfl, rfl⟩ := hp
           have hg1 : xs.length + 1 ≤ grownCap w (xs.length + 1) c 9 := grownCap_ge w _ _ _
           have hg2 : grownCap w (xs.length + 1) c 9 ≤ maxLen := grownCap_le_maxLen w _ _ _ (by unfold maxLen; omega)
           change _ ≤ grownCap w (xs.length + 1) c (Tryz.insertS_ren.t 9) at hg1
           change grownCap w (xs.length + 1) c (Tryz.insertS_ren.t 9) ≤ _ at hg2
           generalize grownCap w (xs.length + 1) c (Tryz.insertS_ren.t 9) = G at hg1 hg2 ⊢
           change ∃ v' cs', Ending.returned (.slice (some ⟨w.heap.size, 0, none⟩) (xs.length + 1) G) = .returned (backV true v') ∧ _ ∧ ExtX _ w ((((w.alloc (.cells ((List.take 0 cs).toArray ++ Builtin.zeroCells (Value.string ⟨#[]⟩).cells (xs.length + 1 - 0) ++ Builtin.zeroCells (Value.string ⟨#[]⟩).cells (G - (xs.length + 1))) 9)).drew.setCells w.heap.size 0 cys).drew).setCells w.heap.size (0 + 1) (cs.drop 0)) ∧ World.ownsRow ((((w.alloc (.cells ((List.take 0 cs).toArray ++ Builtin.zeroCells (Value.string ⟨#[]⟩).cells (xs.length + 1 - 0) ++ Builtin.zeroCells (Value.string ⟨#[]⟩).cells (G - (xs.length + 1))) 9)).drew.setCells w.heap.size 0 cys).drew).setCells w.heap.size (0 + 1) (cs.drop 0)) _ _ _ _ _ _ ∧ _
           generalize hROW : (List.take 0 cs).toArray ++ Builtin.zeroCells (Value.string ⟨#[]⟩).cells (xs.length + 1 - 0) ++ Builtin.zeroCells (Value.string ⟨#[]⟩).cells (G - (xs.length + 1)) = ROW
           have hRs : ROW.size = G := by rw [← hROW]; simp [size_zeroCells, Value.cells]; omega
           have hb1 := setCells_block w.heap.size 9 (0, 0) cys 0 (w.alloc (.cells ROW 9)).drew ROW (heap_alloc_new _ _) (by rw [hRs]; omega)
           have hb2 := setCells_block w.heap.size 9 (0, 0) (cs.drop 0) (0 + 1) (((w.alloc (.cells ROW 9)).drew.setCells w.heap.size 0 cys).drew) _ hb1 (by
             rw [List.length_drop, List.size_toArray]
             simp only [List.length_append, List.length_take, List.length_drop, Array.length_toList, hRs]
             omega)
           refine ⟨_, cys ++ cs, rfl, fun h => (by cases h), ?_, ⟨?_, .inr ⟨w.heap.size, G, _, by rw [hzl], Nat.zero_le _, hb2, by rw [hzl]; exact hg1, hg2, ?_, ?_⟩⟩, hZ, fun b hb => .inr ?_⟩
           · refine ⟨?_, ?_, ?_, ?_, fun k hk _ => ?_⟩
             · rw [(setCells_tape _ _ _ _).2.1]; exact (setCells_tape _ _ _ _).2.1
             · rw [(setCells_tape _ _ _ _).1]; exact (setCells_tape _ _ _ _).1
             · rw [(setCells_tape _ _ _ _).2.2]; exact (setCells_tape _ _ _ _).2.2
             · rw [setCells_size]
               show _ ≤ ((w.alloc (.cells ROW 9)).drew.setCells w.heap.size 0 cys).heap.size
               rw [setCells_size]
               exact ((Ext.refl w).alloc _).size
             · rw [setCells_other _ _ _ _ _ (by omega)]
               show ((w.alloc (.cells ROW 9)).drew.setCells w.heap.size 0 cys).heap[k]? = _
               rw [setCells_other _ _ _ _ _ (by omega)]
               exact ((Ext.refl w).alloc _).block k hk
           · rw [hzl, List.length_append, hl, hlY, hsz]; omega
           · simp only [List.size_toArray, List.length_append, List.length_take, List.length_drop, Array.length_toList, hRs, hl, hlY, hsz]; omega
           · rw [hzl, hsz, Nat.mul_one]
             simp only [List.drop_zero, List.take_zero, List.nil_append, Nat.zero_add]
             rw [show (cys ++ List.drop cys.length ROW.toList).take 1 = cys from List.take_left' hlY]
             exact List.take_left' (by rw [List.length_append, hl, hlY]; omega)
           · simp only [Value.ownBlock, Option.some.injEq] at hb; omega
         · have hsp : ∀ j, j < xs.length + 1 → (w.cell? ⟨b, 0 + j, none⟩).isSome = true := fun j hj => by
             rw [Nat.zero_add]
             unfold World.cell?
             rw [hg]
             simp [show j < cur.size by rw [hcsz]; omega]
           have hfz : ∀ j, j < xs.length + 1 → w.frozen? ⟨b, 0 + j, none⟩ = false := fun j _ => by unfold World.frozen?; rw [hg]; simp
           have hsa : w.shape? vb = some (9, vcur.size) := by unfold World.shape?; rw [hgv]
           have hsb : w.shape? b = some (9, cur.size) := by unfold World.shape?; rw [hg]
           have hvb : vb ≠ b := fun e => hne b rfl (by rw [e]; rfl)
           refine (Any2.slices_Insert_string_shift Tryz.insertS b 0 xs.length c 0 vb 0 1 vc cs cys w hn0 (by decide) hroom (by unfold maxLen at hmax; omega) hvb hl (by omega) hcs hsp hfz hvs h1c h1v 9 9 vcur.size cur.size hsa hsb (by rw [hcsz]; omega) (by unfold World.frozen?; rw [hgv]; simp) (by unfold World.frozen?; rw [hgv]; simp)).mono fun e w' hp => ?_
           obtain ⟨rfl, rfl⟩ := hp
           have hb1 := setCells_block b 9 (0, 0) (cs.drop 0) (0 + (0 + 1)) w.drew cur hg (by rw [List.length_drop, hcsz]; omega)
           have hb2 := setCells_block b 9 (0, 0) cys (0 + 0) _ _ hb1 (by
             rw [List.size_toArray]
             simp only [List.length_append, List.length_take, List.length_drop, Array.length_toList, hcsz]
             omega)
           refine ⟨_, cys ++ cs, rfl, fun h => (by cases h), ?_, ⟨?_, .inr ⟨b, c, _, by rw [hzl], Nat.zero_le _, hb2, by omega, hmax, ?_, ?_⟩⟩, hZ, fun b hb => .inl hb⟩
           · refine ⟨?_, ?_, ?_, ?_, fun k hk hkb => ?_⟩
             · rw [(setCells_tape _ _ _ _).2.1, (setCells_tape _ _ _ _).2.1]; rfl
             · rw [(setCells_tape _ _ _ _).1, (setCells_tape _ _ _ _).1]; rfl
             · rw [(setCells_tape _ _ _ _).2.2, (setCells_tape _ _ _ _).2.2]; rfl
             · rw [setCells_size, setCells_size]; exact Nat.le_refl _
             · have hkb' : k ≠ b := fun e => hkb (by rw [e]; rfl)
               rw [setCells_other _ _ _ _ _ hkb', setCells_other _ _ _ _ _ hkb']; rfl
           · rw [hzl, List.length_append, hl, hlY, hsz]; omega
           · simp only [List.size_toArray, List.length_append, List.length_take, List.length_drop, Array.length_toList, hcsz, hl, hlY, hsz]; omega
           · rw [hzl, hsz, Nat.mul_one]
             simp only [List.drop_zero, List.take_zero, List.nil_append, Nat.zero_add]
             have hR1 : (List.take 1 cur.toList).length = cys.length := by rw [List.length_take, Array.length_toList, hcsz, hlY]; omega
             rw [List.append_assoc (List.take 1 cur.toList), List.drop_left' hR1, ← List.append_assoc]
             exact List.take_left' (by rw [List.length_append, hl, hlY]; omega)
 · cases hz
end
end Go.Proofs.YtahjncefiegflaaGreatDoor



/- slices.SortFunc of structs by their first field, a name that each has but once, out of the kit's contract: it turns a row of its caller's. For any program. -/
namespace Go.Proofs.YtahjncefiegflaaGreatDoor
set_option linter.unusedVariables false
set_option linter.unusedSimpArgs false
open Go Go.RowKit Go.Shelf Go.Sort
def KC (n : Nat) : Type := { p : Str × List Value // p.2.length = n ∧ ∀ v ∈ p.2, v.oneCell' = true }
instance (n : Nat) : Inhabited (KC n) := ⟨⟨([], List.replicate n (.bool false)), by simp, fun v hv => by rw [List.eq_of_mem_replicate hv]; rfl⟩⟩
def encK {n : Nat} (x : KC n) : List Value := .string ⟨x.1.1.toArray⟩ :: x.1.2
theorem encK_len {n : Nat} (x : KC n) : (encK x).length = n + 1 := by unfold encK; rw [List.length_cons, x.2.1]
theorem encK_one {n : Nat} (x : KC n) : ∀ v ∈ encK x, v.oneCell' = true := fun v hv => by
 rcases List.mem_cons.1 hv with rfl | h
 · rfl
 · exact x.2.2 v h
theorem less_isK : ∀ (x y : List UInt8), Op.bytesLess x y = decide (x < y)
 | [], [] => by simp [Op.bytesLess]
 | _ :: _, [] => by simp [Op.bytesLess]
 | [], _ :: _ => by simp [Op.bytesLess]
 | a :: x, b :: y => by
   rw [Op.bytesLess, less_isK x y]
   simp only [List.cons_lt_cons_iff]
   by_cases h1 : a < b <;> by_cases h2 : a = b <;> by_cases h3 : x < y <;> simp [h1, h2, h3]
def cfK {n : Nat} (x y : KC n) : Int := if Op.bytesLess x.1.1 y.1.1 = true then -1 else if x.1.1 = y.1.1 then 0 else 1
theorem lt_cfK {n : Nat} (x y : KC n) : ltOf cfK x y = decide (x.1.1 < y.1.1) := by
 unfold ltOf cfK
 rw [less_isK]
 by_cases h : x.1.1 < y.1.1
 · simp [h]
 · by_cases h2 : x.1.1 = y.1.1
   · simp [h2, str_lt_irrefl y.1.1]
   · simp [h, h2]
theorem swo_cfK {n : Nat} : Sort.SWO (ltOf (cfK (n := n))) where
 irrefl x := by rw [lt_cfK]; exact decide_eq_false (str_lt_irrefl _)
 trans x y z h1 h2 := by
   rw [lt_cfK] at *
   simp only [decide_eq_true_eq] at *
   exact str_lt_trans h1 h2
 ntrans x y z h1 h2 := by
   rw [lt_cfK] at *
   simp only [decide_eq_false_iff_not] at *
   exact fun h => absurd (List.le_trans (List.not_lt.1 h2) (List.not_lt.1 h1)) (List.not_le.2 h)
theorem flat_listK {n : Nat} {ks : List (KC n)} : ∀ t, t < ks.length * (n + 1) → (flatK encK (n + 1) ks.toArray).toList[t]? = (encK (ks[t / (n + 1)]?.getD default))[t % (n + 1)]? := fun t ht => by
 have hs : t < (flatK encK (n + 1) ks.toArray).size := by rw [size_flatK]; simpa using ht
 have hi : t / (n + 1) < ks.length := Nat.div_lt_of_lt_mul (by rw [Nat.mul_comm]; exact ht)
 have h2 : t % (n + 1) < n + 1 := Nat.mod_lt _ (Nat.zero_lt_succ n)
 rw [Array.getElem?_toList, Array.getElem?_eq_getElem hs, ← getElem!_pos _ t hs, get_flatK _ _ _ _ (by simpa using ht)]
 rw [List.getElem?_eq_getElem hi]
 have e1 : ks.toArray[t / (n + 1)]! = ks[t / (n + 1)] := by simp [hi]
 rw [e1]
 have hl : t % (n + 1) < (encK ks[t / (n + 1)]).length := by rw [encK_len]; exact h2
 rw [getElem!_pos (encK ks[t / (n + 1)]) (t % (n + 1)) hl, Option.getD_some, List.getElem?_eq_getElem hl]
theorem flat_part {n : Nat} (ks : List (KC n)) {i : Nat} (h : i < ks.length) : ((flatK encK (n + 1) ks.toArray).toList.drop (i * (n + 1))).take (n + 1) = encK ks[i] := by
 apply List.ext_getElem?
 intro t
 rw [List.getElem?_take]
 by_cases ht : t < n + 1
 · have hlt : i * (n + 1) + t < ks.length * (n + 1) := by
     have : (i + 1) * (n + 1) ≤ ks.length * (n + 1) := Nat.mul_le_mul_right _ h
     rw [Nat.succ_mul] at this
     omega
   rw [if_pos ht, List.getElem?_drop, flat_listK _ hlt]
   have e1 : (i * (n + 1) + t) / (n + 1) = i := by rw [Nat.mul_comm, Nat.mul_add_div (Nat.zero_lt_succ n), Nat.div_eq_of_lt ht, Nat.add_zero]
   have e2 : (i * (n + 1) + t) % (n + 1) = t := by rw [Nat.mul_comm, Nat.mul_add_mod, Nat.mod_eq_of_lt ht]
   rw [e1, e2, List.getElem?_eq_getElem h, Option.getD_some]
 · rw [if_neg ht, List.getElem?_eq_none (by rw [encK_len]; omega)]
def RepK (M : Nat → Nat → Prop) (w : World) (t : Ty) (x : Str × t.den) (c : KC t.sz) : Prop := c.1.1 = x.1 ∧ RepC M w t x.2 c.1.2
theorem els_split {M : Nat → Nat → Prop} {w : World} {t : Ty} : ∀ {xs : List (Str × t.den)} {cs : List Value}, cs.length = xs.length * (t.sz + 1) → Els M w (.pr .str t) xs cs → ∃ ks : List (KC t.sz), All2 (RepK M w t) xs ks ∧ cs = (flatK encK (t.sz + 1) ks.toArray).toList := by
 intro xs cs hl h
 have h1 : ∀ i (hi : i < xs.length), ∃ c : KC t.sz, RepK M w t xs[i] c ∧ (cs.drop (i * (t.sz + 1))).take (t.sz + 1) = encK c := fun i hi => by
   have h2 := h i hi
   have hsz : (Ty.pr .str t).sz = t.sz + 1 := by show 1 + t.sz = _; omega
   rw [hsz] at h2
   obtain ⟨c1, c2, e, h3, h4⟩ := h2
   rw [show c1 = [Value.string ⟨xs[i].1.toArray⟩] from h3] at e
   exact ⟨⟨(xs[i].1, c2), RepC.len t _ _ h4, RepC.one t _ _ h4⟩, ⟨rfl, h4⟩, e⟩
 let ks : List (KC t.sz) := (List.range xs.length).map fun i => if hi : i < xs.length then (h1 i hi).choose else default
 have hkl : ks.length = xs.length := by simp [ks]
 have hk : ∀ i (hi : i < xs.length), ks[i]'(by rw [hkl]; exact hi) = (h1 i hi).choose := fun i hi => by simp [ks, hi]
 refine ⟨ks, ?_, ?_⟩
 · have gen : ∀ (l : List (Str × t.den)) (m : List (KC t.sz)), l.length = m.length → (∀ i (hi : i < l.length) (hj : i < m.length), RepK M w t l[i] m[i]) → All2 (RepK M w t) l m := by
     intro l
     induction l with
     | nil => intro m hm _; cases m with | nil => trivial | cons _ _ => cases hm
     | cons a l ih =>
       intro m hm hr
       cases m with
       | nil => cases hm
       | cons b m => exact ⟨hr 0 (by simp) (by simp), ih m (by simpa using hm) fun i hi hj => hr (i + 1) (Nat.succ_lt_succ hi) (Nat.succ_lt_succ hj)⟩
   refine gen xs ks hkl.symm fun i hi hj => ?_
   rw [hk i hi]
   exact (h1 i hi).choose_spec.1
 · apply List.ext_getElem?
   intro u
   by_cases hu : u < xs.length * (t.sz + 1)
   · have hi : u / (t.sz + 1) < xs.length := Nat.div_lt_of_lt_mul (by rw [Nat.mul_comm]; exact hu)
     rw [flat_listK u (by rw [hkl]; exact hu), List.getElem?_eq_getElem (l := ks) (i := u / (t.sz + 1)) (by rw [hkl]; exact hi), Option.getD_some, hk _ hi, ← (h1 _ hi).choose_spec.2, List.getElem?_take, if_pos (Nat.mod_lt _ (Nat.zero_lt_succ _)), List.getElem?_drop]
     congr 1
     rw [Nat.mul_comm]
     exact (Nat.div_add_mod u (t.sz + 1)).symm
   · rw [List.getElem?_eq_none (by omega), List.getElem?_eq_none (by rw [Array.length_toList, size_flatK]; simp only [List.size_toArray]; rw [hkl]; omega)]
theorem els_join {M : Nat → Nat → Prop} {w : World} {t : Ty} {xs : List (Str × t.den)} {ks : List (KC t.sz)} (h : All2 (RepK M w t) xs ks) : Els M w (.pr .str t) xs (flatK encK (t.sz + 1) ks.toArray).toList := fun i hi => by
 have hsz : (Ty.pr .str t).sz = t.sz + 1 := by show 1 + t.sz = _; omega
 rw [hsz]
 have hik : i < ks.length := by rw [← h.len]; exact hi
 rw [flat_part ks hik]
 obtain ⟨c, hc, h1, h2⟩ := h.get (List.getElem?_eq_getElem hi)
 rw [List.getElem?_eq_getElem hik] at hc
 injection hc with hc
 rw [hc]
 exact ⟨[Value.string ⟨xs[i].1.toArray⟩], c.1.2, by unfold encK; rw [h1]; rfl, rfl, h2⟩
def sortK {α : Type} (key : α → Str) (xs : List α) : Option (List α) := if xs.length < 4611686018427387904 ∧ (xs.map key).Nodup then some (xs.mergeSort (leKey key)) else none
theorem sortK_sound {P : Program} {G : World → Prop} {B0 : Nat} {f g : FuncId} {e : TypeId} {t : Ty} (hcall : ∀ (args : Array Value) (w : World), (callFunc f args).run P w = .ok (.enter f args) w)
   (hB : ∀ (b cap : Nat) (d : Array (KC t.sz)) (w : World), HoldsK encK (t.sz + 1) w b 0 d → b < w.heap.size → d.size < 4611686018427387904 → Calls P f #[.slice (some ⟨b, 0, none⟩) d.size cap, .func (.func g) #[] #[]] w fun e w' =>
     e = .returned (.tuple #[]) ∧ ∃ d' m os, PermIn 0 d.size d d' ∧ SortedIn (ltOf cfK) 0 d.size d' ∧ w' = sortWorldK encK (t.sz + 1) w b 0 m d' os)
   (h0 : ∀ w, Calls P f #[.slice none 0 0, .func (.func g) #[] #[]] w fun e w' => e = .returned (.tuple #[]) ∧ w' = w) :
   Sound P G B0 f ⟨[.row 0, .v (.clo g .un)], [.row e (.pr .str t) true], [], [.row e (.pr .str t) true, .none], List (Str × t.den), fun z => ((), (z, ((), ()))), fun x y => sortK (fun p : Str × t.den => p.1) y.1⟩ := by
 have hsz : (Ty.pr .str t).sz = t.sz + 1 := by show 1 + t.sz = _; omega
 refine Sound.ofRowKept (ps := [.v (.clo g .un)]) (t := .pr .str t) (F := fun x xs => sortK (fun p : Str × t.den => p.1) xs) hcall (by rw [hsz]; omega) fun M w g' v0 vs x xs zs cs hG hMl hM hown hels hA hz => ?_
 match vs, hA with
 | [v1], hA =>
   obtain ⟨h1, _⟩ := hA
   have h3 := RepV.plain (t := .clo g .un) rfl h1
   obtain ⟨caps, h4, h5⟩ := h3
   injection h4 with h4
   have h6 : caps = #[] := by
     have : caps.toList = [] := h5
     exact Array.toList_eq_nil_iff.1 this
   subst h6
   rw [h4]
   change sortK (fun p : Str × t.den => p.1) xs = some zs at hz
   unfold sortK at hz
   split at hz
   case isFalse => cases hz
   rename_i hc
   obtain ⟨hbig, hnd⟩ := hc
   injection hz with hz
   have hl : cs.length = xs.length * (t.sz + 1) := by have := hown.1; rw [hsz] at this; exact this
   obtain ⟨ks, hks, hcs⟩ := els_split hl hels
   have hkl : ks.length = xs.length := hks.len.symm
   have hzl : zs.length = xs.length := by rw [← hz]; exact List.length_mergeSort _
   rcases hown.2 with ⟨e1, e2⟩ | ⟨b, cap, cur, e1, _, hg, hle, hmax, hszc, htk⟩
   · have hx0 : xs = [] := List.eq_nil_of_length_eq_zero e2
     subst hx0 e1
     refine (h0 w).mono fun e w' hp => ?_
     obtain ⟨rfl, rfl⟩ := hp
     have hz0 : zs = [] := List.eq_nil_of_length_eq_zero hzl
     subst hz0
     exact ⟨[], rfl, ExtX.refl _ _, ⟨by simp, .inl ⟨rfl, rfl⟩⟩, fun i h => absurd h (Nat.not_lt_zero _)⟩
   · subst e1
     rw [hsz] at hszc
     have htk' : cur.toList.take (xs.length * (t.sz + 1)) = (flatK encK (t.sz + 1) ks.toArray).toList := by
       rw [← hcs, ← htk]
       rw [hsz]
     have hb : b < w.heap.size := by
       apply Classical.byContradiction
       intro hn
       rw [Array.getElem?_eq_none (by omega)] at hg
       cases hg
     have hH : HoldsK encK (t.sz + 1) w b 0 ks.toArray := fun k hk => by
       have hk' : k < xs.length * (t.sz + 1) := by rw [size_flatK] at hk; simpa [hkl] using hk
       have h1 : cur.toList[k]? = some ((flatK encK (t.sz + 1) ks.toArray)[k]!) := by
         have := congrArg (fun l => l[k]?) htk'
         simp only [List.getElem?_take, hk', if_true, Array.getElem?_toList, Array.getElem?_eq_getElem hk] at this
         rw [getElem!_pos _ k hk]
         simpa using this
       refine ⟨?_, by unfold World.frozen?; rw [hg]; simp⟩
       rw [Nat.zero_add]
       unfold World.cell?
       rw [hg]
       simpa using h1
     have hcon := hB b cap ks.toArray w hH hb (by simpa [hkl] using hbig)
     rw [show ks.toArray.size = xs.length from by simp [hkl]] at hcon
     refine hcon.mono fun e w' hp => ?_
     obtain ⟨rfl, d', n, os, ⟨hps, _, hpp⟩, hso, rfl⟩ := hp
     have hps' : d'.size = xs.length := by rw [hps]; simp [hkl]
     have hrel : All2 (RepK M w t) zs d'.toList := by
       rw [← hz]
       refine sort_rel (key := fun p : Str × t.den => p.1) (key' := fun c : KC t.sz => c.1.1) hks (fun x c h => h.1) hnd ?_ ?_
       · have e1 : (d'.extract 0 xs.length) = d' := by rw [← hps']; exact Array.extract_size
         have e2 : (ks.toArray.extract 0 xs.length) = ks.toArray := by rw [show xs.length = ks.toArray.size from by simp [hkl]]; exact Array.extract_size
         rw [e1, e2] at hpp
         simpa using hpp
       · rw [List.pairwise_iff_getElem]
         intro i j hi hj hij
         have := hso i j (Nat.zero_le _) hij (by rw [Array.length_toList] at hj; rw [← hps']; exact hj)
         rw [lt_cfK] at this
         rw [Array.length_toList] at hi hj
         rw [getElem!_pos d' i hi, getElem!_pos d' j hj] at this
         simpa using this
     obtain ⟨dl, rfl⟩ : ∃ dl : List (KC t.sz), d' = dl.toArray := ⟨d'.toList, by simp⟩
     have hrel' : All2 (RepK M w t) zs dl := by simpa using hrel
     have hdl : dl.length = xs.length := by rw [← hrel'.len, hzl]
     refine ⟨(flatK encK (t.sz + 1) dl.toArray).toList, rfl, (sortW_ext id).mono (fun k hk => by simpa [Value.ownBlock] using hk), ⟨by rw [Array.length_toList, size_flatK, hsz]; simp [hdl, hzl], .inr ⟨b, cap, _, by rw [hzl], Nat.zero_le _, sortW_block id hg, by omega, hmax, ?_, ?_⟩⟩, els_join hrel'⟩
     · rw [putCells_size, hsz]; exact hszc
     · have hle' : (flatK encK (t.sz + 1) dl.toArray).toList.length ≤ cur.size := by
         rw [Array.length_toList, size_flatK, hszc]
         simp only [List.size_toArray]
         rw [hdl]
         exact Nat.mul_le_mul_right _ hle
       have h9 := putCells_take id (flatK encK (t.sz + 1) dl.toArray).toList cur hle'
       rw [Array.length_toList, size_flatK, Array.toArray_toList, List.map_id] at h9
       rw [hsz, hzl]
       simpa [hdl] using h9
end Go.Proofs.YtahjncefiegflaaGreatDoor


/-
 DERIVED: THE SHELF's CONTRACTS AT THIS DUMP, IN PLAIN WORDS (tools/lay-plain.mjs out of 'TryzShelfF.lean', which tools/lay-shelf.mjs wrote): THE SAME DECLARATIONS UNDER THE SAME NAMES: 'import', 'namespace', 'open', 'def', 'theorem' AND NOTHING ELSE: no command of the shelf's: FOR A HAND-IN. Each laying: the table of numbers ('.._ren') and one theorem, a field a fact of the dump's own or the kernel's comparison; each contract: ONE APPLICATION.
-/
namespace Go.Proofs
open Go.Shelf
def Tryz.sortF_ren : Go.Shelf.Ren := ⟨fun | 6 => 66 | 15 => 111 | 14 => 110 | 28 => 151 | 29 => 152 | 20 => 143 | 21 => 144 | 22 => 145 | 23 => 146 | 24 => 147 | 25 => 148 | 26 => 149 | 27 => 150 | 46 => 192 | 47 => 193 | 48 => 194 | 49 => 195 | 50 => 196 | 57 => 239 | n => n, fun | 22 => 54 | 24 => 98 | 25 => 102 | 3 => 3 | 39 => 150 | 0 => 0 | 53 => 199 | 55 => 201 | 4 => 4 | 46 => 192 | 45 => 191 | 50 => 196 | 5 => 5 | 9 => 9 | 66 => 241 | 70 => 245 | 76 => 287 | 77 => 288 | n => n, fun | n => n⟩
theorem Tryz.sortF : Go.Proofs.SlLaysF0.n6 Tryz.prog Tryz.sortF_ren := {
 mixed := by kernel_rfl
 f6 := ⟨Tryz.f66.name, by decide, Tryz.func66.trans (congrArg some (by kernel_rfl))⟩
 f14 := ⟨Tryz.f110.name, by decide, Tryz.func110.trans (congrArg some (by kernel_rfl))⟩
 f15 := Tryz.func111.trans (congrArg some (by kernel_rfl))
 f20 := ⟨Tryz.f143.name, by decide, Tryz.func143.trans (congrArg some (by kernel_rfl))⟩
 f21 := ⟨Tryz.f144.name, by decide, Tryz.func144.trans (congrArg some (by kernel_rfl))⟩
 f22 := ⟨Tryz.f145.name, by decide, Tryz.func145.trans (congrArg some (by kernel_rfl))⟩
 f23 := ⟨Tryz.f146.name, by decide, Tryz.func146.trans (congrArg some (by kernel_rfl))⟩
 f24 := ⟨Tryz.f147.name, by decide, Tryz.func147.trans (congrArg some (by kernel_rfl))⟩
 f25 := ⟨Tryz.f148.name, by decide, Tryz.func148.trans (congrArg some (by kernel_rfl))⟩
 f26 := ⟨Tryz.f149.name, by decide, Tryz.func149.trans (congrArg some (by kernel_rfl))⟩
 f27 := ⟨Tryz.f150.name, by decide, Tryz.func150.trans (congrArg some (by kernel_rfl))⟩
 f28 := Tryz.func151.trans (congrArg some (by kernel_rfl))
 f29 := Tryz.func152.trans (congrArg some (by kernel_rfl))
 f46 := ⟨Tryz.f192.name, by decide, Tryz.func192.trans (congrArg some (by kernel_rfl))⟩
 f47 := Tryz.func193.trans (congrArg some (by kernel_rfl))
 f48 := Tryz.func194.trans (congrArg some (by kernel_rfl))
 f49 := ⟨Tryz.f195.name, by decide, Tryz.func195.trans (congrArg some (by kernel_rfl))⟩
 f50 := ⟨Tryz.f196.name, by decide, Tryz.func196.trans (congrArg some (by kernel_rfl))⟩
 f57 := ⟨Tryz.f239.name, by decide, Tryz.func239.trans (congrArg some (by kernel_rfl))⟩
 t0 := Tryz.underlying0
 a0 := Tryz.isAgg0
 z0 := Tryz.sizeOf0
 v0 := Tryz.zeroValue0
 t3 := Tryz.underlying3
 a3 := Tryz.isAgg3
 z3 := Tryz.sizeOf3
 v3 := Tryz.zeroValue3
 t4 := Tryz.underlying4
 a4 := Tryz.isAgg4
 z4 := Tryz.sizeOf4
 v4 := Tryz.zeroValue4
 t5 := Tryz.underlying5
 a5 := Tryz.isAgg5
 z5 := Tryz.sizeOf5
 v5 := Tryz.zeroValue5
 t9 := Tryz.underlying9
 a9 := Tryz.isAgg9
 z9 := Tryz.sizeOf9
 v9 := Tryz.zeroValue9
 t22 := Tryz.underlying54
 a22 := Tryz.isAgg54
 z22 := Tryz.sizeOf54
 v22 := Tryz.zeroValue54
 t25 := Tryz.underlying102
 a25 := Tryz.isAgg102
 z25 := Tryz.sizeOf102
 v25 := Tryz.zeroValue102
 t39 := Tryz.underlying150
 a39 := Tryz.isAgg150
 z39 := Tryz.sizeOf150
 v39 := Tryz.zeroValue150
 t45 := Tryz.underlying191
 a45 := Tryz.isAgg191
 z45 := Tryz.sizeOf191
 v45 := Tryz.zeroValue191
 t46 := Tryz.underlying192
 a46 := Tryz.isAgg192
 z46 := Tryz.sizeOf192
 v46 := Tryz.zeroValue192
 t50 := Tryz.underlying196
 a50 := Tryz.isAgg196
 z50 := Tryz.sizeOf196
 v50 := Tryz.zeroValue196
 t53 := Tryz.underlying199
 a53 := Tryz.isAgg199
 z53 := Tryz.sizeOf199
 v53 := Tryz.zeroValue199
 t55 := Tryz.underlying201
 a55 := Tryz.isAgg201
 z55 := Tryz.sizeOf201
 v55 := Tryz.zeroValue201
 t66 := Tryz.underlying241
 a66 := Tryz.isAgg241
 z66 := Tryz.sizeOf241
 v66 := Tryz.zeroValue241
 t70 := Tryz.underlying245
 a70 := Tryz.isAgg245
 z70 := Tryz.sizeOf245
 v70 := Tryz.zeroValue245
 t76 := Tryz.underlying287
 a76 := Tryz.isAgg287
 z76 := Tryz.sizeOf287
 v76 := Tryz.zeroValue287
 t77 := Tryz.underlying288
 a77 := Tryz.isAgg288
 z77 := Tryz.sizeOf288
 v77 := Tryz.zeroValue288 }
end Go.Proofs


/- slices.SortFunc of changes by their names, out of the kit's contract: it turns a row of its caller's. -/
namespace Go.Proofs.YtahjncefiegflaaGreatDoor
set_option linter.unusedVariables false
set_option linter.unusedSimpArgs false
open Go Go.RowKit Go.Shelf Go.Sort
theorem compare_cf : ∀ a b : Str, Lib.compareBytes a b = if Op.bytesLess a b = true then -1 else if a = b then 0 else 1
 | [], [] => by simp [Lib.compareBytes, Op.bytesLess]
 | [], _ :: _ => by simp [Lib.compareBytes, Op.bytesLess]
 | _ :: _, [] => by simp [Lib.compareBytes, Op.bytesLess]
 | a :: x, b :: y => by
   rw [Lib.compareBytes, compare_cf x y, Op.bytesLess]
   by_cases h1 : a < b
   · simp [h1]
   · by_cases h2 : b < a
     · have : a ≠ b := fun e => by subst e; exact h1 h2
       simp [h1, h2, this]
     · have e : a = b := by
         have h3 := UInt8.le_antisymm (UInt8.not_lt.1 h2) (UInt8.not_lt.1 h1)
         exact h3
       subst e
       simp
theorem sorted1_calls (x y : KC 2) (W : World) : Calls Tryz.prog 67 #[.agg (encK x).toArray, .agg (encK y).toArray] W fun e w' => e = .returned (.int .i64 (cfK x y)) ∧ ∃ q os', w' = Sort.grow (W.drewN q) os' := by
 obtain ⟨⟨xs, xc⟩, hx1, hx2⟩ := x
 obtain ⟨⟨ys, yc⟩, hy1, hy2⟩ := y
 match xc, hx1, yc, hy1 with
 | [x1, x2], _, [y1, y2], _ =>
   have e1 : (Value.agg #[.string ⟨xs.toArray⟩, x1, x2]).cells = #[.string ⟨xs.toArray⟩, x1, x2] := rfl
   unfold cfK encK
   dsimp only
   rw [← compare_cf]
   go_enter Tryz.func67, Tryz.ntmps67
   go_wp2_with fail
   refine (Tryz.strings_Compare _ _ _).mono ?_
   rintro e w1 ⟨rfl, rfl⟩
   go_wp2_with fail
   all_goals go_ret
   all_goals exact ⟨by simp_all, 0, _, by rw [Sort.alloc_eq_grow, Sort.alloc_eq_grow, Sort.grow_grow]; rfl⟩
theorem aggF : ∀ w, (isAgg 98).run Tryz.prog w = .ok true w := by
 intro w; kernel_rfl
theorem sizeF : ∀ w, (Go.sizeOf 98).run Tryz.prog w = .ok 3 w := by
 intro w; kernel_rfl
def slices_SortFunc_change (_u : Unit) (xs : List τ4) : Option (List τ4) := sortK (fun p : Str × Int × List Str => p.1) xs
theorem z15sound : Sound Tryz.prog GW B0G 66 ⟨[.row 0, .v (.clo 67 .un)], [.row 98 τ7 true], [], [.row 98 τ7 true, .none], List τ4, fun z => ((), (z, ((), ()))), fun x y => slices_SortFunc_change x.2.1 y.1⟩ :=
 sortK_sound (t := .pr τ5 τ13) Tryz.call66 (fun b cap d w hH hb hs => by
   have eg : ∀ args w, (callFunc 67 args).run Tryz.prog w = .ok (.enter 67 args) w := Tryz.call67
   exact AnyQ.slices_SortFunc Tryz.sortF 3 aggF sizeF encK encK_len encK_one cfK swo_cfK 67 #[] b 0 cap d w eg (fun _ _ _ _ x y => sorted1_calls x y _) hH hb hs)
   (fun w => AnyF.slices_SortFunc_none Tryz.sortF none 0 _ w)
end Go.Proofs.YtahjncefiegflaaGreatDoor



/- The types that the printed functions use, as the program has them. -/
namespace Go.Proofs.YtahjncefiegflaaGreatDoor
open Go Go.RowKit
set_option maxRecDepth 100000
abbrev strings_Split_sg (f : SV [.v .str, .v .str] → BV [] → Option τ10) : AF := { ps := [.v .str, .v .str], bs := [], rs := [.v τ13], cs := [], R := List Str, out := fun z => ((z, ()), ()), f := f }
abbrev strings_IndexByte_sg (f : SV [.v .str, .v .u8] → BV [] → Option (Int)) : AF := { ps := [.v .str, .v .u8], bs := [], rs := [.v τ5], cs := [], R := Int, out := fun z => ((z, ()), ()), f := f }
abbrev strings_Compare_sg (f : SV [.v .str, .v .str] → BV [] → Option (Int)) : AF := { ps := [.v .str, .v .str], bs := [], rs := [.v τ5], cs := [], R := Int, out := fun z => ((z, ()), ()), f := f }
abbrev law2_awake_sg (f : SV [] → BV [] → Option (Bool)) : AF := { ps := [], bs := [], rs := [.v .bool], cs := [], R := Bool, out := fun z => ((z, ()), ()), f := f }
abbrev slices_Sort_string_string_sg (f : SV [.row 0] → BV [.row 9 .str true] → Option τ10) : AF := { ps := [.row 0], bs := [.row 9 .str true], rs := [], cs := [.row 9 .str true, .none], R := List Str, out := fun z => ((), (z, (), ())), f := f }
abbrev slices_Compact_string_string_sg (f : SV [.row 0] → BV [.row 9 .str true] → Option τ10) : AF := { ps := [.row 0], bs := [.row 9 .str true], rs := [.row 0], cs := [.row 9 .str true], R := List Str, out := fun z => (((), ()), (z, ())), f := f }
abbrev z18sg (f : SV [.row 0, .v τ5, .row 1] → BV [.row 9 .str true, .row 9 .str false] → Option τ10) : AF := { ps := [.row 0, .v τ5, .row 1], bs := [.row 9 .str true, .row 9 .str false], rs := [.row 0], cs := [.row 9 .str true, .none], R := List Str, out := fun z => (((), ()), (z, (), ())), f := f }
abbrev z15sg (f : SV [.row 0, .v (.clo 67 .un)] → BV [.row 98 τ7 true] → Option (List τ4)) : AF := { ps := [.row 0, .v (.clo 67 .un)], bs := [.row 98 τ7 true], rs := [], cs := [.row 98 τ7 true, .none], R := List τ4, out := fun z => ((), (z, (), ())), f := f }
abbrev z26sg (f : SV [.nilS, .v τ5] → BV [] → Option τ15) : AF := { ps := [.nilS, .v τ5], bs := [], rs := [.row 0], cs := [.row 40 τ3 false], R := List τ2, out := fun z => (((), ()), (z, ())), f := f }
def slices_Grow_target (n : Int) : Option τ15 := growF τ3 n
theorem slices_Grow_target_et : ElemT Tryz.prog 35 40 3 56 := ElemT.mk_ Tryz.underlying35 (z := mkV τ3 (zeroC τ3)) (by kernel_rfl) rfl (by decide) (by decide)
set_option maxHeartbeats 400000 in
theorem slices_Grow_target_calls (n : Nat) (w : World) (hn : n * 72 ≤ 140737488355328) :
   Calls Tryz.prog 113 #[.slice none 0 0, .int .i64 n] w fun e w' => ∃ u, e = .returned u ∧ w'.ownsRow w.heap.size 40 3 u 0 [] ∧ Ext w w' := by
 rcases Nat.eq_zero_or_pos n with rfl | h0
 · go_enter Tryz.func113, Tryz.ntmps113
   go_wp2_with fail
   go_ret
   exact ⟨_, rfl, World.ownsRow_nil _ _ _ _, Ext.refl _⟩
 · go_enter Tryz.func113, Tryz.ntmps113
   go_wp2_with (at_builtin; refine wp_app_make (w0 := w) rfl slices_Grow_target_et Tryz.underlying3 rfl rfl rfl (Ext.refl _) h0 (by omega) ?_; intro cap w1 hc ho hE)
   go_ret
   exact ⟨_, rfl, ho, hE⟩
theorem z26sound : Sound Tryz.prog GW B0G 113 (z26sg fun x y => slices_Grow_target x.2.1) :=
 Sound.ofGrow Tryz.call113 (by decide) fun n w hn => slices_Grow_target_calls n w (by have : n * (24 * Ty.sz τ3) = n * 72 := rfl; omega)
abbrev z37sg (f : SV [.nilS, .v τ5] → BV [] → Option τ8) : AF := { ps := [.nilS, .v τ5], bs := [], rs := [.row 0], cs := [.row 84 τ11 false], R := List τ0, out := fun z => (((), ()), (z, ())), f := f }
def slices_Grow_attr (n : Int) : Option τ8 := growF τ11 n
theorem slices_Grow_attr_et : ElemT Tryz.prog 38 84 6 96 := ElemT.mk_ Tryz.underlying38 (z := mkV τ11 (zeroC τ11)) (by kernel_rfl) rfl (by decide) (by decide)
set_option maxHeartbeats 400000 in
theorem slices_Grow_attr_calls (n : Nat) (w : World) (hn : n * 144 ≤ 140737488355328) :
   Calls Tryz.prog 163 #[.slice none 0 0, .int .i64 n] w fun e w' => ∃ u, e = .returned u ∧ w'.ownsRow w.heap.size 84 6 u 0 [] ∧ Ext w w' := by
 rcases Nat.eq_zero_or_pos n with rfl | h0
 · go_enter Tryz.func163, Tryz.ntmps163
   go_wp2_with fail
   go_ret
   exact ⟨_, rfl, World.ownsRow_nil _ _ _ _, Ext.refl _⟩
 · go_enter Tryz.func163, Tryz.ntmps163
   go_wp2_with (at_builtin; refine wp_app_make (w0 := w) rfl slices_Grow_attr_et Tryz.underlying3 rfl rfl rfl (Ext.refl _) h0 (by omega) ?_; intro cap w1 hc ho hE)
   go_ret
   exact ⟨_, rfl, ho, hE⟩
theorem z37sound : Sound Tryz.prog GW B0G 163 (z37sg fun x y => slices_Grow_attr x.2.1) :=
 Sound.ofGrow Tryz.call163 (by decide) fun n w hn => slices_Grow_attr_calls n w (by have : n * (24 * Ty.sz τ11) = n * 144 := rfl; omega)
theorem tyOk_int : TyOk Tryz.prog 3 τ5 := ⟨_, by kernel_rfl, Tryz.underlying3, rfl⟩
theorem tyOk_bool : TyOk Tryz.prog 4 .bool := ⟨_, by kernel_rfl, Tryz.underlying4, rfl⟩
theorem tyOk_string : TyOk Tryz.prog 9 .str := ⟨_, by kernel_rfl, Tryz.underlying9, rfl⟩
theorem tyOk_ABstring : TyOk Tryz.prog 22 τ13 := ⟨_, by kernel_rfl, Tryz.underlying22, rfl⟩
theorem tyOk_ABapiDCase : TyOk Tryz.prog 23 τ1 := ⟨_, by kernel_rfl, Tryz.underlying23, rfl⟩
theorem tyOk_smithyardSapiDValue : TyOk Tryz.prog 25 τ6 := ⟨_, by kernel_rfl, Tryz.underlying25, rfl⟩
theorem tyOk_ABapiDTarget : TyOk Tryz.prog 35 (.sl τ3) := ⟨_, by kernel_rfl, Tryz.underlying35, rfl⟩
theorem tyOk_smithyardSapiDPackage : TyOk Tryz.prog 37 τ12 := ⟨_, by kernel_rfl, Tryz.underlying37, rfl⟩
theorem tyOk_ABapiDAttr : TyOk Tryz.prog 38 τ1 := ⟨_, by kernel_rfl, Tryz.underlying38, rfl⟩
theorem tyOk_smithyardSapiDTarget : TyOk Tryz.prog 40 τ3 := ⟨_, by kernel_rfl, Tryz.underlying40, rfl⟩
theorem tyOk_smithyardSapiDLabel : TyOk Tryz.prog 46 (.pr .str .str) := ⟨_, by kernel_rfl, Tryz.underlying46, rfl⟩
theorem tyOk_ABapiDTargetChange : TyOk Tryz.prog 54 (.sl τ7) := ⟨_, by kernel_rfl, Tryz.underlying54, rfl⟩
theorem tyOk_smithyardSapiDCase : TyOk Tryz.prog 75 τ11 := ⟨_, by kernel_rfl, Tryz.underlying75, rfl⟩
theorem tyOk_smithyardSapiDAttr : TyOk Tryz.prog 84 τ11 := ⟨_, by kernel_rfl, Tryz.underlying84, rfl⟩
theorem tyOk_mapAstringBapiDTarget : TyOk Tryz.prog 94 (.mp τ3) := ⟨_, by kernel_rfl, Tryz.underlying94, rfl⟩
theorem tyOk_smithyardSapiDTargetChange : TyOk Tryz.prog 98 τ7 := ⟨_, by kernel_rfl, Tryz.underlying98, rfl⟩
theorem tyOk_mapAstringBbool : TyOk Tryz.prog 127 (.mp .bool) := ⟨_, by kernel_rfl, Tryz.underlying127, rfl⟩
theorem tyOk_ABABapiDTarget : TyOk Tryz.prog 151 (.sl (.sl τ3)) := ⟨_, by kernel_rfl, Tryz.underlying151, rfl⟩
theorem tyOk_ABABstring : TyOk Tryz.prog 183 (.sl τ13) := ⟨_, by kernel_rfl, Tryz.underlying183, rfl⟩
theorem tyOk_ABABapiDAttr : TyOk Tryz.prog 207 (.sl τ1) := ⟨_, by kernel_rfl, Tryz.underlying207, rfl⟩
def tyT : TypeId → Option Ty := fun T =>
 match T with
 | 3 => some τ5
 | 4 => some .bool
 | 9 => some .str
 | 22 => some τ13
 | 23 => some τ1
 | 25 => some τ6
 | 35 => some (.sl τ3)
 | 37 => some τ12
 | 38 => some τ1
 | 40 => some τ3
 | 46 => some (.pr .str .str)
 | 54 => some (.sl τ7)
 | 75 => some τ11
 | 84 => some τ11
 | 94 => some (.mp τ3)
 | 98 => some τ7
 | 127 => some (.mp .bool)
 | 151 => some (.sl (.sl τ3))
 | 183 => some (.sl τ13)
 | 207 => some (.sl τ1)
 | _ => none
theorem tyT_ok : ∀ T t, tyT T = some t → TyOk Tryz.prog T t := by
 intro T t h
 unfold tyT at h
 split at h
 · cases h; exact tyOk_int
 · cases h; exact tyOk_bool
 · cases h; exact tyOk_string
 · cases h; exact tyOk_ABstring
 · cases h; exact tyOk_ABapiDCase
 · cases h; exact tyOk_smithyardSapiDValue
 · cases h; exact tyOk_ABapiDTarget
 · cases h; exact tyOk_smithyardSapiDPackage
 · cases h; exact tyOk_ABapiDAttr
 · cases h; exact tyOk_smithyardSapiDTarget
 · cases h; exact tyOk_smithyardSapiDLabel
 · cases h; exact tyOk_ABapiDTargetChange
 · cases h; exact tyOk_smithyardSapiDCase
 · cases h; exact tyOk_smithyardSapiDAttr
 · cases h; exact tyOk_mapAstringBapiDTarget
 · cases h; exact tyOk_smithyardSapiDTargetChange
 · cases h; exact tyOk_mapAstringBbool
 · cases h; exact tyOk_ABABapiDTarget
 · cases h; exact tyOk_ABABstring
 · cases h; exact tyOk_ABABapiDAttr
 · cases h
def elT : TypeId → Option (TypeId × Ty) := fun T =>
 match T with
 | 22 => some (9, .str)
 | 23 => some (75, τ11)
 | 35 => some (40, τ3)
 | 38 => some (84, τ11)
 | 54 => some (98, τ7)
 | 151 => some (35, (.sl τ3))
 | 183 => some (22, τ13)
 | 207 => some (38, τ1)
 | _ => none
theorem elT_ok : ∀ T e t, elT T = some (e, t) → ElOk Tryz.prog T e t := by
 intro T e t h
 unfold elT at h
 split at h
 · cases h; exact ⟨tyOk_string, 16, ElemT.mk_ Tryz.underlying22 (z := mkV .str (zeroC .str)) (by kernel_rfl) rfl (by decide) (by decide), by decide⟩
 · cases h; exact ⟨tyOk_smithyardSapiDCase, 96, ElemT.mk_ Tryz.underlying23 (z := mkV τ11 (zeroC τ11)) (by kernel_rfl) rfl (by decide) (by decide), by decide⟩
 · cases h; exact ⟨tyOk_smithyardSapiDTarget, 56, ElemT.mk_ Tryz.underlying35 (z := mkV τ3 (zeroC τ3)) (by kernel_rfl) rfl (by decide) (by decide), by decide⟩
 · cases h; exact ⟨tyOk_smithyardSapiDAttr, 96, ElemT.mk_ Tryz.underlying38 (z := mkV τ11 (zeroC τ11)) (by kernel_rfl) rfl (by decide) (by decide), by decide⟩
 · cases h; exact ⟨tyOk_smithyardSapiDTargetChange, 48, ElemT.mk_ Tryz.underlying54 (z := mkV τ7 (zeroC τ7)) (by kernel_rfl) rfl (by decide) (by decide), by decide⟩
 · cases h; exact ⟨tyOk_ABapiDTarget, 24, ElemT.mk_ Tryz.underlying151 (z := mkV (.sl τ3) (zeroC (.sl τ3))) (by kernel_rfl) rfl (by decide) (by decide), by decide⟩
 · cases h; exact ⟨tyOk_ABstring, 24, ElemT.mk_ Tryz.underlying183 (z := mkV τ13 (zeroC τ13)) (by kernel_rfl) rfl (by decide) (by decide), by decide⟩
 · cases h; exact ⟨tyOk_ABapiDAttr, 24, ElemT.mk_ Tryz.underlying207 (z := mkV τ1 (zeroC τ1)) (by kernel_rfl) rfl (by decide) (by decide), by decide⟩
 · cases h
def fldT : TypeId → Nat → Option (Nat × Ty) := fun T f =>
 match T, f with
 | 25, 0 => some (0, τ5)
 | 25, 1 => some (1, .str)
 | 25, 2 => some (2, τ5)
 | 25, 3 => some (3, τ13)
 | 25, 4 => some (4, τ1)
 | 37, 0 => some (0, .str)
 | 37, 1 => some (1, (.sl τ3))
 | 40, 0 => some (0, .str)
 | 40, 1 => some (1, .str)
 | 40, 2 => some (2, τ1)
 | 46, 0 => some (0, .str)
 | 46, 1 => some (1, .str)
 | 75, 0 => some (0, .str)
 | 75, 1 => some (1, τ6)
 | 84, 0 => some (0, .str)
 | 84, 1 => some (1, τ6)
 | 98, 0 => some (0, .str)
 | 98, 1 => some (1, τ5)
 | 98, 2 => some (2, τ13)
 | _, _ => none
theorem fldT_ok : ∀ T f off t, fldT T f = some (off, t) → FldOk Tryz.prog T f off t := by
 intro T f off t h
 unfold fldT at h
 split at h
 · cases h; exact ⟨_, _, Tryz.underlying25, rfl, rfl, tyOk_int, by decide⟩
 · cases h; exact ⟨_, _, Tryz.underlying25, rfl, rfl, tyOk_string, by decide⟩
 · cases h; exact ⟨_, _, Tryz.underlying25, rfl, rfl, tyOk_int, by decide⟩
 · cases h; exact ⟨_, _, Tryz.underlying25, rfl, rfl, tyOk_ABstring, by decide⟩
 · cases h; exact ⟨_, _, Tryz.underlying25, rfl, rfl, tyOk_ABapiDCase, by decide⟩
 · cases h; exact ⟨_, _, Tryz.underlying37, rfl, rfl, tyOk_string, by decide⟩
 · cases h; exact ⟨_, _, Tryz.underlying37, rfl, rfl, tyOk_ABapiDTarget, by decide⟩
 · cases h; exact ⟨_, _, Tryz.underlying40, rfl, rfl, tyOk_string, by decide⟩
 · cases h; exact ⟨_, _, Tryz.underlying40, rfl, rfl, tyOk_string, by decide⟩
 · cases h; exact ⟨_, _, Tryz.underlying40, rfl, rfl, tyOk_ABapiDAttr, by decide⟩
 · cases h; exact ⟨_, _, Tryz.underlying46, rfl, rfl, tyOk_string, by decide⟩
 · cases h; exact ⟨_, _, Tryz.underlying46, rfl, rfl, tyOk_string, by decide⟩
 · cases h; exact ⟨_, _, Tryz.underlying75, rfl, rfl, tyOk_string, by decide⟩
 · cases h; exact ⟨_, _, Tryz.underlying75, rfl, rfl, tyOk_smithyardSapiDValue, by decide⟩
 · cases h; exact ⟨_, _, Tryz.underlying84, rfl, rfl, tyOk_string, by decide⟩
 · cases h; exact ⟨_, _, Tryz.underlying84, rfl, rfl, tyOk_smithyardSapiDValue, by decide⟩
 · cases h; exact ⟨_, _, Tryz.underlying98, rfl, rfl, tyOk_string, by decide⟩
 · cases h; exact ⟨_, _, Tryz.underlying98, rfl, rfl, tyOk_int, by decide⟩
 · cases h; exact ⟨_, _, Tryz.underlying98, rfl, rfl, tyOk_ABstring, by decide⟩
 · cases h
theorem mpT_ok : ∀ T e, tyT T = some (.mp e) → MpOk Tryz.prog T e := by
 intro T e h
 unfold tyT at h
 split at h
 · cases h
 · cases h
 · cases h
 · cases h
 · cases h
 · cases h
 · cases h
 · cases h
 · cases h
 · cases h
 · cases h
 · cases h
 · cases h
 · cases h
 · cases h; exact ⟨_, _, Tryz.underlying94, Tryz.underlying9, tyOk_smithyardSapiDTarget⟩
 · cases h
 · cases h; exact ⟨_, _, Tryz.underlying127, Tryz.underlying9, tyOk_bool⟩
 · cases h
 · cases h
 · cases h
 · cases h
theorem bldT_ok : ∀ T t, tyT T = some t → t.isAgg = true → ∃ fs places, Tryz.prog.underlying T = some (.struct fs) ∧ fs.toList.mapM (fun f => (Tryz.prog.info? f.type).map fun i => (f.offset, i.size)) = some places := by
 intro T t h ha
 unfold tyT at h
 split at h
 · cases h; cases ha
 · cases h; cases ha
 · cases h; cases ha
 · cases h; cases ha
 · cases h; cases ha
 · exact ⟨_, [(0, 1), (1, 1), (2, 1), (3, 1), (4, 1)], Tryz.underlying25, by kernel_rfl⟩
 · cases h; cases ha
 · exact ⟨_, [(0, 1), (1, 1)], Tryz.underlying37, by kernel_rfl⟩
 · cases h; cases ha
 · exact ⟨_, [(0, 1), (1, 1), (2, 1)], Tryz.underlying40, by kernel_rfl⟩
 · exact ⟨_, [(0, 1), (1, 1)], Tryz.underlying46, by kernel_rfl⟩
 · cases h; cases ha
 · exact ⟨_, [(0, 1), (1, 5)], Tryz.underlying75, by kernel_rfl⟩
 · exact ⟨_, [(0, 1), (1, 5)], Tryz.underlying84, by kernel_rfl⟩
 · cases h; cases ha
 · exact ⟨_, [(0, 1), (1, 1), (2, 1)], Tryz.underlying98, by kernel_rfl⟩
 · cases h; cases ha
 · cases h; cases ha
 · cases h; cases ha
 · cases h; cases ha
 · cases h
theorem ptT_ok : ∀ T t, tyT T = some t → isPtr t = true → (Tryz.prog.info? (Tryz.prog.pointee T)).isSome = true := by
 intro T t h ha
 unfold tyT at h
 split at h
 · cases h; cases ha
 · cases h; cases ha
 · cases h; cases ha
 · cases h; cases ha
 · cases h; cases ha
 · cases h; cases ha
 · cases h; cases ha
 · cases h; cases ha
 · cases h; cases ha
 · cases h; cases ha
 · cases h; cases ha
 · cases h; cases ha
 · cases h; cases ha
 · cases h; cases ha
 · cases h; cases ha
 · cases h; cases ha
 · cases h; cases ha
 · cases h; cases ha
 · cases h; cases ha
 · cases h; cases ha
 · cases h
theorem cmpOk_smithyardSapiDLabel : CmpOk Tryz.prog 46 (.pr .str .str) := CmpOk.flat rfl rfl Tryz.underlying46 (by kernel_rfl) (by kernel_rfl) (.cons rfl (by decide) (.str Tryz.underlying9) (.one rfl (by decide) (.str Tryz.underlying9)))
def cmpT : TypeId → Option Ty := fun T =>
 match T with
 | 46 => some (.pr .str .str)
 | _ => none
theorem cmpT_ok : ∀ T t, cmpT T = some t → CmpOk Tryz.prog T t := by
 intro T t h
 unfold cmpT at h
 split at h
 · cases h; exact cmpOk_smithyardSapiDLabel
 · cases h
def mkE (h : Nat → Hint) (fn : FuncId → Option Tmp → Option AF) (exq : Nat → Bool) (live : FuncId → Bool) : Env := { ty := tyT, el := elT, fld := fldT, cmp := cmpT, fn := fn, hint := h, exq := exq, live := live }
theorem mkE_ok (hh : Nat → Hint) (fn : FuncId → Option Tmp → Option AF) (exq : Nat → Bool) (live : FuncId → Bool) (h : ∀ f q F, fn f q = some F → Sound Tryz.prog GW B0G f F) : EnvOk Tryz.prog GW B0G (mkE hh fn exq live) :=
 { ty := tyT_ok, el := elT_ok, fld := fldT_ok, mp := mpT_ok, bld := bldT_ok, ptr := ptT_ok, cmp := cmpT_ok, fn := h, stable := GW_stable, mixed := by kernel_rfl }
end Go.Proofs.YtahjncefiegflaaGreatDoor

