/- slices.Grow of the nil slice, as a meaning: an own row without elements. -/
import Derived.Test.YtbekhaioddmliaaGreatDoorQBmI
import Derived.Test.YtbekhaioddmliaaGreatDoorQSlc
import Derived.WalkSpells
import Derived.WalkLawsBesides
import Derived.Outline
import Derived.IntWalk
import Derived.Test.YtbekhaioddmliaaGreatDoorProg
namespace Go.Proofs.YtbekhaioddmliaaGreatDoor
open Go Go.RowKit
abbrev τ0 : Ty := .sl (.pr .str .str)
abbrev τ1 : Type := Str × Str
abbrev τ2 : Ty := .pr .str (.rc .value)
abbrev τ3 : Type := Str × GValue
abbrev τ4 : Ty := .pr (.sl (.pr .str (.sl .str))) (.pr (.sl (.pr .str (.pr τ0 τ0))) (.pr (.sl (.pr .str τ0)) (.pr (.sl (.pr .str (.pr .str (.pr τ0 τ0)))) (.sl (.pr .str (.pr τ0 (.sl .str)))))))
abbrev τ5 : Ty := .int .i64
abbrev τ6 : Type := Str × List τ1 × List τ1
abbrev τ7 : Type := List (Str × List Str)
abbrev τ8 : Ty := .sl (.pr .str (.sl .str))
abbrev τ9 : Ty := .pr .str (.pr τ0 τ0)
abbrev τ10 : Ty := .pr .str (.pr .str (.sl τ2))
abbrev τ11 : Type := Str × Str × List τ1 × List τ1
abbrev τ12 : Type := List (Str × List τ1)
abbrev τ13 : Type := List (Str × List τ1 × List Str)
abbrev τ14 : Ty := .rc .value
abbrev τ15 : Ty := .pr .str τ0
abbrev τ16 : Ty := .pr .str (.pr τ0 (.sl .str))
abbrev τ17 : Type := Str × Str × List τ3
abbrev τ18 : Type := List τ3
abbrev τ19 : Type := GValue × Int
abbrev τ20 : Type := List (Str × List Str) × List τ6 × List (Str × List τ1) × List τ11 × List (Str × List τ1 × List Str)
abbrev τ21 : Type := Str × Bool
abbrev τ22 : Type := Int × List Str
abbrev τ23 : Ty := .pr .str .str
abbrev τ24 : Ty := .sl .str
abbrev τ25 : Type := List Str
abbrev τ26 : Ty := .pr (.ptr .str) .un
end Go.Proofs.YtbekhaioddmliaaGreatDoor
namespace Go.Proofs.YtbekhaioddmliaaGreatDoor
set_option linter.unusedVariables false
set_option linter.unusedSimpArgs false
open Go Go.RowKit Go.Shelf
def growF (t : Ty) (n : Int) : Option (List t.den) := if 0 ≤ n ∧ n * ((24 * t.sz : Nat) : Int) ≤ 140737488355328 then some [] else none
theorem own_base {w : World} {base : Nat} {e : TypeId} {sz : Nat} {v : Value} {n : Nat} {cs : List Value} (h : w.ownsRow base e sz v n cs) : w.ownsRow 0 e sz v n cs := by
 refine ⟨h.1, ?_⟩
 rcases h.2 with h0 | ⟨g, cap, cur, h1, _, h2⟩
 · exact .inl h0
 · exact .inr ⟨g, cap, cur, h1, Nat.zero_le _, h2⟩
theorem Sound.ofNew {P : Program} {G : World → Prop} {B0 : Nat} {f : FuncId} {ps : List Sl} {e : TypeId} {t : Ty} {ex : Bool} {F : SV ps → Option (List t.den)}
   (hcall : ∀ (args : Array Value) (w : World), (callFunc f args).run P w = .ok (.enter f args) w) (hz : 0 < t.sz)
   (h : ∀ (M : Nat → Nat → Prop) (w : World) (vs : List Value) (x : SV ps) (zs : List t.den), G w → (∀ b o, M b o → b < w.heap.size) → All2 (RepD0 M w g0) (lays id ps x) vs → F x = some zs →
     Calls P f vs.toArray w fun en w' => ∃ u cs, en = .returned u ∧ w'.ownsRow w.heap.size e t.sz u zs.length cs ∧ Ext w w' ∧ ∀ M', Step M w M' w' → Els M' w' t zs cs) :
   Sound P G B0 f ⟨ps, [], [.row 0], [.row e t ex], List t.den, fun z => (((), ()), (z, ())), fun x _ => F x⟩ := by
 refine ⟨hcall, fun M w g vs x y z hG hB hF hz' => ?_⟩
 have hg : g = g0 := by
   funext r
   cases hr : g r with
   | none => rfl
   | some gx => exact absurd (hF.dom r gx hr) (Nat.not_lt_zero _)
 subst hg
 refine (h M w vs x z hG hF.mlt hF.args hz').mono fun en w' hp => ?_
 obtain ⟨u, cs, he, hown, hE, hels⟩ := hp
 obtain ⟨g', hgd⟩ : ∃ g' : Gh, g' = fun r => if r = 0 then some ⟨u.ownBlock, loOf t ex z.length, u⟩ else none := ⟨_, rfl⟩
 have hg0' : g' 0 = some ⟨u.ownBlock, loOf t ex z.length, u⟩ := by rw [hgd]; rfl
 have hgo : ∀ r gy, g' r = some gy → r = 0 ∧ gy = ⟨u.ownBlock, loOf t ex z.length, u⟩ := fun r gy hr => by
   rw [hgd] at hr
   by_cases h0 : r = 0
   · subst h0; simp at hr; exact ⟨rfl, hr.symm⟩
   · simp [h0] at hr
 have hblk : ∀ b, u.ownBlock = some b → w.heap.size ≤ b ∧ b < w'.heap.size := fun b hb => by
   rcases hown.2 with ⟨e1, _⟩ | ⟨gg, cap, cur, e1, h1, h2, _⟩
   · rw [e1] at hb; cases hb
   · rw [e1] at hb
     simp only [Value.ownBlock, Option.some.injEq] at hb
     subst hb
     exact ⟨h1, lt_of_map h2⟩
 have hM : ∀ b o, Mafter M g0 g' b o → M b o ∨ u.ownBlock = some b := fun b o hm => by
   rcases hm with ⟨hm, _⟩ | ⟨r, gy, hr, hb, _⟩
   · exact .inl hm
   · obtain ⟨_, rfl⟩ := hgo r gy hr; exact .inr hb
 have hstep : Step M w (Mafter M g0 g') w' := by
   have key : ∀ b o, b < w.heap.size → ¬ M b o → w'.heap[b]? = w.heap[b]? ∧ ¬ Mafter M g0 g' b o := fun b o hb hm => by
     refine ⟨hE.block b hb, fun hm' => ?_⟩
     rcases hM b o hm' with h1 | h1
     · exact hm h1
     · have := (hblk b h1).1; omega
   refine ⟨fun ad v hu hm => ?_, fun b es c hb hm => ?_⟩
   · obtain ⟨h1, h2⟩ := key ad.block ad.off (World.block_lt_of_cell? w _ hu) hm
     exact ⟨(cell_of_block h1).trans hu, h2⟩
   · obtain ⟨h1, h2⟩ := key b 0 (lt_of_map hb) hm
     exact ⟨h1.trans hb, h2⟩
 obtain ⟨A', c', hv', _⟩ := Row.of_own' hown
 have hrow : RepD0 (Mafter M g0 g') w' g' (.row 0) u := ⟨_, A', _, c', hg0', rfl, hv'⟩
 refine ⟨[u], g', he, ExtX.of_ext hE, hstep, ?_, fun r gy hr _ => (by cases hr), fun b hb => ?_⟩
 · exact {
     args := ⟨hrow, trivial⟩
     res := fun r blk hr => by
       cases r with
       | zero =>
         obtain rfl : Blk.row e t ex z = blk := Option.some.inj hr
         refine ⟨_, hg0', hz, cs, own_base hown, rfl, by cases ex <;> rfl, fun i hi => ?_⟩
         exact hels _ hstep i hi
       | succ r => cases hr
     dom := fun r gy hr => by obtain ⟨rfl, _⟩ := hgo r gy hr; exact Nat.zero_lt_one
     inj := fun r r' gy gy' b hr hr' _ _ => by obtain ⟨rfl, _⟩ := hgo r gy hr; obtain ⟨rfl, _⟩ := hgo r' gy' hr'; rfl
     low := fun r gy b hr hb => by
       obtain ⟨_, rfl⟩ := hgo r gy hr
       obtain ⟨h1, h2⟩ := hblk b hb
       exact ⟨Nat.le_trans hB h1, h2⟩
     chg := fun r gy b o hr hb => by
       obtain ⟨rfl, rfl⟩ := hgo r gy hr
       constructor
       · rintro (⟨h1, _⟩ | ⟨r', gy', h1, h2, h3⟩)
         · have := hF.mlt b o h1; have := (hblk b hb).1; omega
         · obtain ⟨_, rfl⟩ := hgo r' gy' h1; exact h3
       · exact fun hle => .inr ⟨0, _, hr, hb, hle⟩
     mlt := fun b o hm => by
       rcases hM b o hm with h1 | h1
       · exact Nat.lt_of_lt_of_le (hF.mlt b o h1) hE.size
       · exact (hblk b h1).2
     row := fun r gy b hr hb h0 es c hc => by
       obtain ⟨_, rfl⟩ := hgo r gy hr
       exact (own_row hown hb).2 es c hc }
 · obtain ⟨r, gy, hr, hb⟩ := hb
   obtain ⟨_, rfl⟩ := hgo r gy hr
   exact .inr (hblk b hb).1
theorem Sound.ofGrow {P : Program} {G : World → Prop} {B0 : Nat} {f : FuncId} {e : TypeId} {t : Ty}
   (hcall : ∀ (args : Array Value) (w : World), (callFunc f args).run P w = .ok (.enter f args) w) (hz : 0 < t.sz)
   (h : ∀ (n : Nat) (w : World), n * (24 * t.sz) ≤ 140737488355328 → Calls P f #[.slice none 0 0, .int .i64 n] w fun en w' => ∃ u, en = .returned u ∧ w'.ownsRow w.heap.size e t.sz u 0 [] ∧ Ext w w') :
   Sound P G B0 f ⟨[.nilS, .v .i64], [], [.row 0], [.row e t false], List t.den, fun z => (((), ()), (z, ())), fun x _ => growF t x.2.1⟩ := by
 refine Sound.ofNew (ps := [.nilS, .v .i64]) (ex := false) (F := fun x => growF t x.2.1) hcall hz fun M w vs x zs hG hM hA hz' => ?_
 obtain ⟨_, n, _⟩ := x
 match vs, hA with
 | [v0, v1], ⟨h0, h1, _⟩ =>
   have h0 : v0 = .slice none 0 0 := h0
   have h1 : v1 = .int .i64 n := RepV.int h1
   subst h0 h1
   change growF t n = some zs at hz'
   unfold growF at hz'
   split at hz'
   · rename_i hn
     cases hz'
     obtain ⟨hn1, hn2⟩ := hn
     obtain ⟨k, rfl⟩ : ∃ k : Nat, n = (k : Int) := ⟨Int.toNat n, (Int.toNat_of_nonneg hn1).symm⟩
     have hk : k * (24 * t.sz) ≤ 140737488355328 := Int.ofNat_le.1 (by rw [Int.natCast_mul]; exact hn2)
     refine (h k w hk).mono fun en w' hp => ?_
     obtain ⟨u, he, hown, hE⟩ := hp
     exact ⟨u, [], he, hown, hE, fun M' _ i hi => absurd hi (by simp)⟩
   · cases hz'
end Go.Proofs.YtbekhaioddmliaaGreatDoor


/- slices.Compact of strings, out of the kit's contract: it turns a row of its caller's. -/
namespace Go.Proofs.YtbekhaioddmliaaGreatDoor
set_option linter.unusedVariables false
set_option linter.unusedSimpArgs false
open Go Go.RowKit Go.Shelf
def slices_Compact_string_string (xs : List Str) : Option τ25 := some (Lib.compact xs)
theorem compact_le (xs : List Str) : (Lib.compact xs).length ≤ xs.length := Lib.compact_length_le xs
theorem z10sound : Sound Tryz.prog GW B0G 72 ⟨[.row 0], [.row 9 .str true], [.row 0], [.row 9 .str true], List Str, fun z => (((), ()), (z, ())), fun x y => slices_Compact_string_string y.1⟩ := by
 refine Sound.ofRow (ps := []) (t := .str) true (F := fun x xs => slices_Compact_string_string xs) Tryz.call72 (by decide) fun M w g v0 vs x xs zs cs hG hMl hM hown hels hA hz => ?_
 match vs, hA with
 | [], hA =>
     change slices_Compact_string_string xs = some zs at hz
     unfold slices_Compact_string_string at hz
     injection hz with hz
     have hl := hown.1
     have hl' : cs.length = xs.length := by rw [hl]; exact Nat.mul_one _
     have hcs := els_str hl' hels
     rcases hown.2 with ⟨e1, e2⟩ | ⟨b, cap, cur, e1, _, hg, hle, hmax, hsz, htk⟩
     · have hx0 : xs = [] := List.eq_nil_of_length_eq_zero e2
       subst hx0 e1
       refine (Tryz.slices_Compact_string_empty none 0 w).mono fun e w' hp => ?_
       obtain ⟨rfl, rfl⟩ := hp
       subst hz
       exact ⟨_, [], rfl, fun h => (by cases h), ExtX.refl _ _, ⟨rfl, .inl ⟨rfl, rfl⟩⟩, fun i h => absurd h (Nat.not_lt_zero _), fun b hb => .inl hb⟩
     · subst e1
       have hsz' : cur.size = cap := by rw [hsz]; exact Nat.mul_one _
       have htk' : cur.toList.take xs.length = xs.map fun x => Value.string ⟨x.toArray⟩ := by rw [← hcs, ← htk]; congr 1; exact (Nat.mul_one _).symm
       have hcell : ∀ k, k < xs.length → w.cell? ⟨b, 0 + k, none⟩ = some (.string ⟨(xs[k]?.getD []).toArray⟩) := fun k hk => by
         have h1 : cur.toList[k]? = some (Value.string ⟨xs[k].toArray⟩) := by
           have := congrArg (fun l => l[k]?) htk'
           simp only [List.getElem?_take, hk, if_true, List.getElem?_map, List.getElem?_eq_getElem hk, Option.map_some] at this
           exact this
         rw [Nat.zero_add, List.getElem?_eq_getElem hk]
         unfold World.cell?
         rw [hg]
         simpa using h1
       refine (Tryz.slices_Compact_string_cells b 0 xs.length cap (fun k => ⟨(xs[k]?.getD []).toArray⟩) w (by unfold maxLen at hmax; omega) hle hcell (fun k hk => by unfold World.frozen?; rw [hg]; simp)).mono fun e w' hp => ?_
       obtain ⟨rfl, q, rfl⟩ := hp
       have hstrs : Lib.strsOf (fun k => (⟨(xs[k]?.getD []).toArray⟩ : ByteArray)) xs.length = xs := by
         apply List.ext_getElem
         · simp [Lib.strsOf]
         · intro k h1 h2
           simp [Lib.strsOf, h2]
       rw [hstrs]
       rw [hz]
       have hzle : zs.length ≤ xs.length := by rw [← hz]; exact compact_le xs
       have hnew : (zs ++ List.replicate (xs.length - zs.length) []).length = xs.length := by
         simp only [List.length_append, List.length_replicate]; omega
       have hblk := setCells_block b 9 (0, 0) ((zs ++ List.replicate (xs.length - zs.length) []).map encStr) 0 (w.drewN q) cur hg (by rw [List.length_map, hnew]; omega)
       refine ⟨_, zs.map fun x => Value.string ⟨x.toArray⟩, rfl, fun h => (by cases h), setCells_ext.mono (fun k hk => by simpa [Value.ownBlock] using hk), ⟨by rw [List.length_map]; exact (Nat.mul_one _).symm, .inr ⟨b, cap, _, rfl, Nat.zero_le _, hblk, by omega, hmax, ?_, ?_⟩⟩, str_els _, fun b hb => .inl hb⟩
       · have hcl : cur.toList.length = cap := by rw [Array.length_toList]; exact hsz'
         simp only [List.take_zero, List.nil_append, List.size_toArray, List.length_append, List.length_drop, List.length_map, List.length_replicate, hcl]
         show _ = cap * 1
         omega
       · show ((List.take 0 cur.toList ++ _ ++ _).toArray.toList).take (zs.length * 1) = _
         rw [Nat.mul_one, List.take_zero, List.nil_append, List.map_append, List.append_assoc]
         have e0 : zs.map encStr = zs.map fun x => Value.string ⟨x.toArray⟩ := rfl
         rw [e0]
         have : zs.length = (zs.map fun x => Value.string ⟨x.toArray⟩).length := by simp
         rw [this]
         simp
end Go.Proofs.YtbekhaioddmliaaGreatDoor



/- The types that the printed functions use, as the program has them. -/
namespace Go.Proofs.YtbekhaioddmliaaGreatDoor
open Go Go.RowKit
set_option maxRecDepth 100000
abbrev z86sg (f : SV [.v .str, .v .str] → BV [] → Option (Str)) : AF := { ps := [.v .str, .v .str], bs := [], rs := [.v .str], cs := [], R := Str, out := fun z => ((z, ()), ()), f := f }
abbrev z85sg (f : SV [.v τ24, .v .str] → BV [] → Option (Str)) : AF := { ps := [.v τ24, .v .str], bs := [], rs := [.v .str], cs := [], R := Str, out := fun z => ((z, ()), ()), f := f }
abbrev z79sg (f : SV [.v .str, .v .str] → BV [] → Option τ25) : AF := { ps := [.v .str, .v .str], bs := [], rs := [.v τ24], cs := [], R := List Str, out := fun z => ((z, ()), ()), f := f }
abbrev z53sg (f : SV [.v .str, .v .u8] → BV [] → Option (Int)) : AF := { ps := [.v .str, .v .u8], bs := [], rs := [.v τ5], cs := [], R := Int, out := fun z => ((z, ()), ()), f := f }
abbrev z61sg (f : SV [.v .str, .v .str] → BV [] → Option (Int)) : AF := { ps := [.v .str, .v .str], bs := [], rs := [.v τ5], cs := [], R := Int, out := fun z => ((z, ()), ()), f := f }
abbrev z46sg (f : SV [.row 0, .v τ5, .row 1] → BV [.row 53 τ23 true, .row 53 τ23 false] → Option (List τ1)) : AF := { ps := [.row 0, .v τ5, .row 1], bs := [.row 53 τ23 true, .row 53 τ23 false], rs := [.row 0], cs := [.row 53 τ23 true, .none], R := List τ1, out := fun z => (((), ()), (z, (), ())), f := f }
abbrev z24sg (f : SV [.row 0] → BV [.row 9 .str true] → Option τ25) : AF := { ps := [.row 0], bs := [.row 9 .str true], rs := [], cs := [.row 9 .str true, .none], R := List Str, out := fun z => ((), (z, (), ())), f := f }
abbrev z10sg (f : SV [.row 0] → BV [.row 9 .str true] → Option τ25) : AF := { ps := [.row 0], bs := [.row 9 .str true], rs := [.row 0], cs := [.row 9 .str true], R := List Str, out := fun z => (((), ()), (z, ())), f := f }
abbrev z65sg (f : SV [.mref 0] → BV [.map .bool] → Option (List τ21)) : AF := { ps := [.mref 0], bs := [.map .bool], rs := [.fnc 123 [1]], cs := [.map .bool, .cells [.mref 0]], R := List τ21, out := fun z => (((), ()), (z, ((), ()), ())), f := f }
abbrev z47sg (f : SV [.fnc 123 [0]] → BV [.cells [.mref 1], .map .bool] → Option ((List τ21) × List Str)) : AF := { ps := [.fnc 123 [0]], bs := [.cells [.mref 1], .map .bool], rs := [.row 2], cs := [.cells [.mref 1], .map .bool, .row 9 .str false], R := (List τ21) × List Str, out := fun z => (((), ()), (((), ()), z.1, z.2, ())), f := f }
abbrev z37sg (f : SV [.nilS, .v τ5] → BV [] → Option τ18) : AF := { ps := [.nilS, .v τ5], bs := [], rs := [.row 0], cs := [.row 102 τ2 false], R := List τ3, out := fun z => (((), ()), (z, ())), f := f }
def slices_Grow_api_Attr (n : Int) : Option τ18 := growF τ2 n
theorem slices_Grow_api_Attr_et : ElemT Tryz.prog 57 102 6 96 := ElemT.mk_ Tryz.underlying57 (z := mkV τ2 (zeroC τ2)) (by kernel_rfl) rfl (by decide) (by decide)
set_option maxHeartbeats 400000 in
theorem slices_Grow_api_Attr_calls (n : Nat) (w : World) (hn : n * 144 ≤ 140737488355328) :
   Calls Tryz.prog 181 #[.slice none 0 0, .int .i64 n] w fun e w' => ∃ u, e = .returned u ∧ w'.ownsRow w.heap.size 102 6 u 0 [] ∧ Ext w w' := by
 rcases Nat.eq_zero_or_pos n with rfl | h0
 · go_enter Tryz.func181, Tryz.ntmps181
   go_wp2_with fail
   go_ret
   exact ⟨_, rfl, World.ownsRow_nil _ _ _ _, Ext.refl _⟩
 · go_enter Tryz.func181, Tryz.ntmps181
   go_wp2_with (at_builtin; refine wp_app_make (w0 := w) rfl slices_Grow_api_Attr_et Tryz.underlying3 rfl rfl rfl (Ext.refl _) h0 (by omega) ?_; intro cap w1 hc ho hE)
   go_ret
   exact ⟨_, rfl, ho, hE⟩
theorem z37sound : Sound Tryz.prog GW B0G 181 (z37sg fun x y => slices_Grow_api_Attr x.2.1) :=
 Sound.ofGrow Tryz.call181 (by decide) fun n w hn => slices_Grow_api_Attr_calls n w (by have : n * (24 * Ty.sz τ2) = n * 144 := rfl; omega)
theorem tyOk_int : TyOk Tryz.prog 3 τ5 := ⟨_, by kernel_rfl, Tryz.underlying3, rfl⟩
theorem tyOk_bool : TyOk Tryz.prog 4 .bool := ⟨_, by kernel_rfl, Tryz.underlying4, rfl⟩
theorem tyOk_string : TyOk Tryz.prog 9 .str := ⟨_, by kernel_rfl, Tryz.underlying9, rfl⟩
theorem tyOk_ABapiDSetting : TyOk Tryz.prog 22 τ8 := ⟨_, by kernel_rfl, Tryz.underlying22, rfl⟩
theorem tyOk_ABapiDCondition : TyOk Tryz.prog 23 (.sl τ9) := ⟨_, by kernel_rfl, Tryz.underlying23, rfl⟩
theorem tyOk_ABapiDPlatform : TyOk Tryz.prog 24 (.sl τ15) := ⟨_, by kernel_rfl, Tryz.underlying24, rfl⟩
theorem tyOk_ABapiDTransition : TyOk Tryz.prog 26 (.sl τ16) := ⟨_, by kernel_rfl, Tryz.underlying26, rfl⟩
theorem tyOk_smithyardSapiDWorld : TyOk Tryz.prog 28 τ4 := ⟨_, by kernel_rfl, Tryz.underlying28, rfl⟩
theorem tyOk_ABstring : TyOk Tryz.prog 29 τ24 := ⟨_, by kernel_rfl, Tryz.underlying29, rfl⟩
theorem tyOk_ABapiDCase : TyOk Tryz.prog 30 (.sl τ2) := ⟨_, by kernel_rfl, Tryz.underlying30, rfl⟩
theorem tyOk_smithyardSapiDValue : TyOk Tryz.prog 32 τ14 := ⟨_, by kernel_rfl, Tryz.underlying32, rfl⟩
theorem tyOk_ABapiDPair : TyOk Tryz.prog 33 τ0 := ⟨_, by kernel_rfl, Tryz.underlying33, rfl⟩
theorem tyOk_smithyardSapiDPlatform : TyOk Tryz.prog 35 τ15 := ⟨_, by kernel_rfl, Tryz.underlying35, rfl⟩
theorem tyOk_smithyardSapiDTransition : TyOk Tryz.prog 43 τ16 := ⟨_, by kernel_rfl, Tryz.underlying43, rfl⟩
theorem tyOk_ABABapiDPair : TyOk Tryz.prog 44 (.sl τ0) := ⟨_, by kernel_rfl, Tryz.underlying44, rfl⟩
theorem tyOk_smithyardSapiDPair : TyOk Tryz.prog 53 τ23 := ⟨_, by kernel_rfl, Tryz.underlying53, rfl⟩
theorem tyOk_ABapiDAttr : TyOk Tryz.prog 57 (.sl τ2) := ⟨_, by kernel_rfl, Tryz.underlying57, rfl⟩
theorem tyOk_smithyardSapiDTarget : TyOk Tryz.prog 59 τ10 := ⟨_, by kernel_rfl, Tryz.underlying59, rfl⟩
theorem tyOk_ABapiDTarget : TyOk Tryz.prog 63 (.sl τ10) := ⟨_, by kernel_rfl, Tryz.underlying63, rfl⟩
theorem tyOk_smithyardSapiDPackage : TyOk Tryz.prog 65 (.pr .str (.sl τ10)) := ⟨_, by kernel_rfl, Tryz.underlying65, rfl⟩
theorem tyOk_smithyardSapiDCase : TyOk Tryz.prog 78 τ2 := ⟨_, by kernel_rfl, Tryz.underlying78, rfl⟩
theorem tyOk_smithyardSapiDSetting : TyOk Tryz.prog 81 (.pr .str τ24) := ⟨_, by kernel_rfl, Tryz.underlying81, rfl⟩
theorem tyOk_smithyardSapiDAttr : TyOk Tryz.prog 102 τ2 := ⟨_, by kernel_rfl, Tryz.underlying102, rfl⟩
theorem tyOk_mapAstringBbool : TyOk Tryz.prog 105 (.mp .bool) := ⟨_, by kernel_rfl, Tryz.underlying105, rfl⟩
theorem tyOk_smithyardSapiDCondition : TyOk Tryz.prog 108 τ9 := ⟨_, by kernel_rfl, Tryz.underlying108, rfl⟩
theorem tyOk_uint : TyOk Tryz.prog 142 (.int .u64) := ⟨_, by kernel_rfl, Tryz.underlying142, rfl⟩
theorem tyOk_ABABapiDAttr : TyOk Tryz.prog 204 (.sl (.sl τ2)) := ⟨_, by kernel_rfl, Tryz.underlying204, rfl⟩
def tyT : TypeId → Option Ty := fun T =>
 match T with
 | 3 => some τ5
 | 4 => some .bool
 | 9 => some .str
 | 22 => some τ8
 | 23 => some (.sl τ9)
 | 24 => some (.sl τ15)
 | 26 => some (.sl τ16)
 | 28 => some τ4
 | 29 => some τ24
 | 30 => some (.sl τ2)
 | 32 => some τ14
 | 33 => some τ0
 | 35 => some τ15
 | 43 => some τ16
 | 44 => some (.sl τ0)
 | 53 => some τ23
 | 57 => some (.sl τ2)
 | 59 => some τ10
 | 63 => some (.sl τ10)
 | 65 => some (.pr .str (.sl τ10))
 | 78 => some τ2
 | 81 => some (.pr .str τ24)
 | 102 => some τ2
 | 105 => some (.mp .bool)
 | 108 => some τ9
 | 142 => some (.int .u64)
 | 204 => some (.sl (.sl τ2))
 | _ => none
theorem tyT_ok : ∀ T t, tyT T = some t → TyOk Tryz.prog T t := by
 intro T t h
 unfold tyT at h
 split at h
 · cases h; exact tyOk_int
 · cases h; exact tyOk_bool
 · cases h; exact tyOk_string
 · cases h; exact tyOk_ABapiDSetting
 · cases h; exact tyOk_ABapiDCondition
 · cases h; exact tyOk_ABapiDPlatform
 · cases h; exact tyOk_ABapiDTransition
 · cases h; exact tyOk_smithyardSapiDWorld
 · cases h; exact tyOk_ABstring
 · cases h; exact tyOk_ABapiDCase
 · cases h; exact tyOk_smithyardSapiDValue
 · cases h; exact tyOk_ABapiDPair
 · cases h; exact tyOk_smithyardSapiDPlatform
 · cases h; exact tyOk_smithyardSapiDTransition
 · cases h; exact tyOk_ABABapiDPair
 · cases h; exact tyOk_smithyardSapiDPair
 · cases h; exact tyOk_ABapiDAttr
 · cases h; exact tyOk_smithyardSapiDTarget
 · cases h; exact tyOk_ABapiDTarget
 · cases h; exact tyOk_smithyardSapiDPackage
 · cases h; exact tyOk_smithyardSapiDCase
 · cases h; exact tyOk_smithyardSapiDSetting
 · cases h; exact tyOk_smithyardSapiDAttr
 · cases h; exact tyOk_mapAstringBbool
 · cases h; exact tyOk_smithyardSapiDCondition
 · cases h; exact tyOk_uint
 · cases h; exact tyOk_ABABapiDAttr
 · cases h
def elT : TypeId → Option (TypeId × Ty) := fun T =>
 match T with
 | 22 => some (81, (.pr .str τ24))
 | 23 => some (108, τ9)
 | 24 => some (35, τ15)
 | 26 => some (43, τ16)
 | 29 => some (9, .str)
 | 30 => some (78, τ2)
 | 33 => some (53, τ23)
 | 44 => some (33, τ0)
 | 57 => some (102, τ2)
 | 63 => some (59, τ10)
 | 204 => some (57, (.sl τ2))
 | _ => none
theorem elT_ok : ∀ T e t, elT T = some (e, t) → ElOk Tryz.prog T e t := by
 intro T e t h
 unfold elT at h
 split at h
 · cases h; exact ⟨tyOk_smithyardSapiDSetting, 40, ElemT.mk_ Tryz.underlying22 (z := mkV (.pr .str τ24) (zeroC (.pr .str τ24))) (by kernel_rfl) rfl (by decide) (by decide), by decide⟩
 · cases h; exact ⟨tyOk_smithyardSapiDCondition, 64, ElemT.mk_ Tryz.underlying23 (z := mkV τ9 (zeroC τ9)) (by kernel_rfl) rfl (by decide) (by decide), by decide⟩
 · cases h; exact ⟨tyOk_smithyardSapiDPlatform, 40, ElemT.mk_ Tryz.underlying24 (z := mkV τ15 (zeroC τ15)) (by kernel_rfl) rfl (by decide) (by decide), by decide⟩
 · cases h; exact ⟨tyOk_smithyardSapiDTransition, 64, ElemT.mk_ Tryz.underlying26 (z := mkV τ16 (zeroC τ16)) (by kernel_rfl) rfl (by decide) (by decide), by decide⟩
 · cases h; exact ⟨tyOk_string, 16, ElemT.mk_ Tryz.underlying29 (z := mkV .str (zeroC .str)) (by kernel_rfl) rfl (by decide) (by decide), by decide⟩
 · cases h; exact ⟨tyOk_smithyardSapiDCase, 96, ElemT.mk_ Tryz.underlying30 (z := mkV τ2 (zeroC τ2)) (by kernel_rfl) rfl (by decide) (by decide), by decide⟩
 · cases h; exact ⟨tyOk_smithyardSapiDPair, 32, ElemT.mk_ Tryz.underlying33 (z := mkV τ23 (zeroC τ23)) (by kernel_rfl) rfl (by decide) (by decide), by decide⟩
 · cases h; exact ⟨tyOk_ABapiDPair, 24, ElemT.mk_ Tryz.underlying44 (z := mkV τ0 (zeroC τ0)) (by kernel_rfl) rfl (by decide) (by decide), by decide⟩
 · cases h; exact ⟨tyOk_smithyardSapiDAttr, 96, ElemT.mk_ Tryz.underlying57 (z := mkV τ2 (zeroC τ2)) (by kernel_rfl) rfl (by decide) (by decide), by decide⟩
 · cases h; exact ⟨tyOk_smithyardSapiDTarget, 56, ElemT.mk_ Tryz.underlying63 (z := mkV τ10 (zeroC τ10)) (by kernel_rfl) rfl (by decide) (by decide), by decide⟩
 · cases h; exact ⟨tyOk_ABapiDAttr, 24, ElemT.mk_ Tryz.underlying204 (z := mkV (.sl τ2) (zeroC (.sl τ2))) (by kernel_rfl) rfl (by decide) (by decide), by decide⟩
 · cases h
def fldT : TypeId → Nat → Option (Nat × Ty) := fun T f =>
 match T, f with
 | 28, 0 => some (0, τ8)
 | 28, 1 => some (1, (.sl τ9))
 | 28, 4 => some (4, (.sl τ16))
 | 32, 0 => some (0, τ5)
 | 32, 1 => some (1, .str)
 | 32, 2 => some (2, τ5)
 | 32, 3 => some (3, τ24)
 | 32, 4 => some (4, (.sl τ2))
 | 35, 0 => some (0, .str)
 | 35, 1 => some (1, τ0)
 | 43, 0 => some (0, .str)
 | 43, 1 => some (1, τ0)
 | 43, 2 => some (2, τ24)
 | 53, 0 => some (0, .str)
 | 53, 1 => some (1, .str)
 | 59, 0 => some (0, .str)
 | 59, 1 => some (1, .str)
 | 59, 2 => some (2, (.sl τ2))
 | 65, 0 => some (0, .str)
 | 65, 1 => some (1, (.sl τ10))
 | 78, 0 => some (0, .str)
 | 78, 1 => some (1, τ14)
 | 81, 0 => some (0, .str)
 | 81, 1 => some (1, τ24)
 | 102, 0 => some (0, .str)
 | 102, 1 => some (1, τ14)
 | 108, 0 => some (0, .str)
 | 108, 1 => some (1, τ0)
 | 108, 2 => some (2, τ0)
 | _, _ => none
theorem fldT_ok : ∀ T f off t, fldT T f = some (off, t) → FldOk Tryz.prog T f off t := by
 intro T f off t h
 unfold fldT at h
 split at h
 · cases h; exact ⟨_, _, Tryz.underlying28, rfl, rfl, tyOk_ABapiDSetting, by decide⟩
 · cases h; exact ⟨_, _, Tryz.underlying28, rfl, rfl, tyOk_ABapiDCondition, by decide⟩
 · cases h; exact ⟨_, _, Tryz.underlying28, rfl, rfl, tyOk_ABapiDTransition, by decide⟩
 · cases h; exact ⟨_, _, Tryz.underlying32, rfl, rfl, tyOk_int, by decide⟩
 · cases h; exact ⟨_, _, Tryz.underlying32, rfl, rfl, tyOk_string, by decide⟩
 · cases h; exact ⟨_, _, Tryz.underlying32, rfl, rfl, tyOk_int, by decide⟩
 · cases h; exact ⟨_, _, Tryz.underlying32, rfl, rfl, tyOk_ABstring, by decide⟩
 · cases h; exact ⟨_, _, Tryz.underlying32, rfl, rfl, tyOk_ABapiDCase, by decide⟩
 · cases h; exact ⟨_, _, Tryz.underlying35, rfl, rfl, tyOk_string, by decide⟩
 · cases h; exact ⟨_, _, Tryz.underlying35, rfl, rfl, tyOk_ABapiDPair, by decide⟩
 · cases h; exact ⟨_, _, Tryz.underlying43, rfl, rfl, tyOk_string, by decide⟩
 · cases h; exact ⟨_, _, Tryz.underlying43, rfl, rfl, tyOk_ABapiDPair, by decide⟩
 · cases h; exact ⟨_, _, Tryz.underlying43, rfl, rfl, tyOk_ABstring, by decide⟩
 · cases h; exact ⟨_, _, Tryz.underlying53, rfl, rfl, tyOk_string, by decide⟩
 · cases h; exact ⟨_, _, Tryz.underlying53, rfl, rfl, tyOk_string, by decide⟩
 · cases h; exact ⟨_, _, Tryz.underlying59, rfl, rfl, tyOk_string, by decide⟩
 · cases h; exact ⟨_, _, Tryz.underlying59, rfl, rfl, tyOk_string, by decide⟩
 · cases h; exact ⟨_, _, Tryz.underlying59, rfl, rfl, tyOk_ABapiDAttr, by decide⟩
 · cases h; exact ⟨_, _, Tryz.underlying65, rfl, rfl, tyOk_string, by decide⟩
 · cases h; exact ⟨_, _, Tryz.underlying65, rfl, rfl, tyOk_ABapiDTarget, by decide⟩
 · cases h; exact ⟨_, _, Tryz.underlying78, rfl, rfl, tyOk_string, by decide⟩
 · cases h; exact ⟨_, _, Tryz.underlying78, rfl, rfl, tyOk_smithyardSapiDValue, by decide⟩
 · cases h; exact ⟨_, _, Tryz.underlying81, rfl, rfl, tyOk_string, by decide⟩
 · cases h; exact ⟨_, _, Tryz.underlying81, rfl, rfl, tyOk_ABstring, by decide⟩
 · cases h; exact ⟨_, _, Tryz.underlying102, rfl, rfl, tyOk_string, by decide⟩
 · cases h; exact ⟨_, _, Tryz.underlying102, rfl, rfl, tyOk_smithyardSapiDValue, by decide⟩
 · cases h; exact ⟨_, _, Tryz.underlying108, rfl, rfl, tyOk_string, by decide⟩
 · cases h; exact ⟨_, _, Tryz.underlying108, rfl, rfl, tyOk_ABapiDPair, by decide⟩
 · cases h; exact ⟨_, _, Tryz.underlying108, rfl, rfl, tyOk_ABapiDPair, by decide⟩
 · cases h
theorem mpT_ok : ∀ T e, tyT T = some (.mp e) → MpOk Tryz.prog T e := by
 intro T e h
 unfold tyT at h
 split at h
 · cases h
 · cases h
 · cases h
 · cases h
 · cases h
 · cases h
 · cases h
 · cases h
 · cases h
 · cases h
 · cases h
 · cases h
 · cases h
 · cases h
 · cases h
 · cases h
 · cases h
 · cases h
 · cases h
 · cases h
 · cases h
 · cases h
 · cases h
 · cases h; exact ⟨_, _, Tryz.underlying105, Tryz.underlying9, tyOk_bool⟩
 · cases h
 · cases h
 · cases h
 · cases h
theorem bldT_ok : ∀ T t, tyT T = some t → t.isAgg = true → ∃ fs places, Tryz.prog.underlying T = some (.struct fs) ∧ fs.toList.mapM (fun f => (Tryz.prog.info? f.type).map fun i => (f.offset, i.size)) = some places := by
 intro T t h ha
 unfold tyT at h
 split at h
 · cases h; cases ha
 · cases h; cases ha
 · cases h; cases ha
 · cases h; cases ha
 · cases h; cases ha
 · cases h; cases ha
 · cases h; cases ha
 · exact ⟨_, [(0, 1), (1, 1), (2, 1), (3, 1), (4, 1)], Tryz.underlying28, by kernel_rfl⟩
 · cases h; cases ha
 · cases h; cases ha
 · exact ⟨_, [(0, 1), (1, 1), (2, 1), (3, 1), (4, 1)], Tryz.underlying32, by kernel_rfl⟩
 · cases h; cases ha
 · exact ⟨_, [(0, 1), (1, 1)], Tryz.underlying35, by kernel_rfl⟩
 · exact ⟨_, [(0, 1), (1, 1), (2, 1)], Tryz.underlying43, by kernel_rfl⟩
 · cases h; cases ha
 · exact ⟨_, [(0, 1), (1, 1)], Tryz.underlying53, by kernel_rfl⟩
 · cases h; cases ha
 · exact ⟨_, [(0, 1), (1, 1), (2, 1)], Tryz.underlying59, by kernel_rfl⟩
 · cases h; cases ha
 · exact ⟨_, [(0, 1), (1, 1)], Tryz.underlying65, by kernel_rfl⟩
 · exact ⟨_, [(0, 1), (1, 5)], Tryz.underlying78, by kernel_rfl⟩
 · exact ⟨_, [(0, 1), (1, 1)], Tryz.underlying81, by kernel_rfl⟩
 · exact ⟨_, [(0, 1), (1, 5)], Tryz.underlying102, by kernel_rfl⟩
 · cases h; cases ha
 · exact ⟨_, [(0, 1), (1, 1), (2, 1)], Tryz.underlying108, by kernel_rfl⟩
 · cases h; cases ha
 · cases h; cases ha
 · cases h
theorem cmpOk_smithyardSapiDPair : CmpOk Tryz.prog 53 τ23 := CmpOk.flat rfl rfl Tryz.underlying53 (by kernel_rfl) (by kernel_rfl) (.cons rfl (by decide) (.str Tryz.underlying9) (.one rfl (by decide) (.str Tryz.underlying9)))
def cmpT : TypeId → Option Ty := fun T =>
 match T with
 | 53 => some τ23
 | _ => none
theorem cmpT_ok : ∀ T t, cmpT T = some t → CmpOk Tryz.prog T t := by
 intro T t h
 unfold cmpT at h
 split at h
 · cases h; exact cmpOk_smithyardSapiDPair
 · cases h
def mkE (h : Nat → Hint) (fn : FuncId → Option Tmp → Option AF) (exq : Nat → Bool) (live : FuncId → Bool) : Env := { ty := tyT, el := elT, fld := fldT, cmp := cmpT, fn := fn, hint := h, exq := exq, live := live }
theorem mkE_ok (hh : Nat → Hint) (fn : FuncId → Option Tmp → Option AF) (exq : Nat → Bool) (live : FuncId → Bool) (h : ∀ f q F, fn f q = some F → Sound Tryz.prog GW B0G f F) : EnvOk Tryz.prog GW B0G (mkE hh fn exq live) :=
 { ty := tyT_ok, el := elT_ok, fld := fldT_ok, mp := mpT_ok, bld := bldT_ok, cmp := cmpT_ok, fn := h, stable := GW_stable, mixed := by kernel_rfl }
end Go.Proofs.YtbekhaioddmliaaGreatDoor

