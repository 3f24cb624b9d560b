/- What the checks of settings and configurations compute. No program in sight. -/
import Derived.Test.YtbekhaioddmliaaDoorQCfF2
import Derived.Test.YtbekhaioddmliaaDoorQFor
import Derived.Test.YtbekhaioddmliaaDoorQEnd
import Derived.KernelRfl
namespace Go.Proofs.YtbekhaioddmliaaDoor
set_option linter.unusedVariables false
set_option linter.unusedSimpArgs false
open Go Go.RowKit
variable {N : Nat}
/-- A byte of a word. -/
def wordB (b : UInt8) : Bool := [97, 98, 99, 100, 101, 102, 103, 104, 105, 106, 107, 108, 109, 110, 111, 112, 113, 114, 115, 116, 117, 118, 119, 120, 121, 122, 48, 49, 50, 51, 52, 53, 54, 55, 56, 57, 95, 45].contains b
def isWordS (s : Str) : Bool := match s with
  | [] => false
  | b :: _ => decide (s.length ≤ 40) && decide (97 ≤ b.toNat) && decide (b.toNat ≤ 122) && s.all wordB
theorem dropWhile_nil {α : Type} {p : α → Bool} : ∀ {l : List α}, l.dropWhile p = [] ↔ l.all p = true
  | [] => by simp
  | x :: l => by
    cases h : p x with
    | true => rw [List.dropWhile_cons_of_pos h]; simp [dropWhile_nil, h]
    | false => rw [List.dropWhile_cons_of_neg (by simp [h])]; simp [h]
theorem all_reverse {α : Type} (p : α → Bool) (l : List α) : l.reverse.all p = l.all p := by simp
theorem all_dropWhile {α : Type} (p : α → Bool) : ∀ l : List α, (l.dropWhile p).all p = l.all p
  | [] => rfl
  | x :: l => by
    cases h : p x with
    | true => rw [List.dropWhile_cons_of_pos h]; simp [all_dropWhile p l, h]
    | false => rw [List.dropWhile_cons_of_neg (by simp [h])]
theorem trimS_nil (s cs : Str) : (Lib.trimS s cs == []) = s.all (cs.contains ·) := by
  have h : Lib.trimS s cs = [] ↔ s.all (cs.contains ·) = true := by
    unfold Lib.trimS Lib.trimLeftS Lib.trimRightS
    rw [dropWhile_nil, all_reverse, all_dropWhile, all_reverse]
  cases hb : s.all (cs.contains ·) with
  | true => rw [h.2 hb]; rfl
  | false =>
    cases ht : Lib.trimS s cs with
    | nil => rw [h.1 ht] at hb; cases hb
    | cons => rfl
theorem config_IsWord_eq (x : Str) : config_IsWord N x = some (isWordS x) := by
  cases x with
  | nil => simp [config_IsWord, isWordS]
  | cons b x =>
    unfold config_IsWord isWordS
    simp only [geti_zero, List.getElem?_cons_zero, bnd_some]
    rw [show decide (((b :: x).length : Int) < 1) = false from decide_eq_false (by simp; omega), br_false, v8_lt, v8_gt,
      not_dec (p := b.toNat < UInt8.toNat 97) (q := 97 ≤ b.toNat) (by show b.toNat < 97 ↔ _; omega), not_dec (p := UInt8.toNat 122 < b.toNat) (q := b.toNat ≤ 122) (by show 122 < b.toNat ↔ _; omega)]
    by_cases h40 : (b :: x).length ≤ 40
    · have e5 : ∀ cs : Str, cs.length < 1000000 → cs.all (fun c => decide (c.toNat < 128)) = true → strings_Trim (b :: x) cs = some (Lib.trimS (b :: x) cs) := fun cs h1 h2 => if_pos ⟨by omega, h1, h2⟩
      rw [decide_eq_false (show ¬ ((b :: x).length : Int) > 40 by omega), br_false, e5 _ (by decide) (by decide), bnd_some, trimS_nil, decide_eq_true h40]
      show br (!decide (97 ≤ b.toNat)) (some false) (br (!decide (b.toNat ≤ 122)) (some false) (some ((b :: x).all wordB))) = some (true && decide (97 ≤ b.toNat) && decide (b.toNat ≤ 122) && (b :: x).all wordB)
      generalize (b :: x).all wordB = q
      cases decide (97 ≤ b.toNat) <;> cases decide (b.toNat ≤ 122) <;> simp
    · rw [decide_eq_true (show ((b :: x).length : Int) > 40 by omega), br_true, decide_eq_false h40]; rfl
/-- The text before an element of a list of pairs. -/
def prevS {α : Type} (l : List (Str × α)) (i : Nat) (n : Str) (r : Int) : Int := if i = 0 then r else match l[i - 1]? with | some y => if (Op.bytesLess n y.1 || n == y.1) then 8 else r | none => r
theorem prev_eq {α : Type} {l : List (Str × α)} (hx : l.length ≤ maxLen) {i : Nat} (h : i < l.length) {n : Str} {r : Int} :
    (br (decide ((i : Int) > 0)) (bnd (geti l (IntKind.i64.wrap ((i : Int) - 1))) fun y => br (Op.bytesLess n y.1 || n == y.1) (some 8) (some r)) (some r)) = some (prevS l i n r) := by
  unfold maxLen at hx
  unfold prevS
  cases i with
  | zero => simp
  | succ j =>
    rw [wrap_pred (by omega), show ((j + 1 : Nat) : Int) - 1 = (j : Int) by omega, geti_lt l (by omega), bnd_some, br_ite, decide_eq_true (show ((j + 1 : Nat) : Int) > 0 by omega), br_true, if_neg (Nat.succ_ne_zero j)]
    rw [show j + 1 - 1 = j from rfl, List.getElem?_eq_getElem (by omega)]
/-- What settings are checked for. -/
def valuesS (rest : Int) (l : List Str) : Int := forT (fun i w r => if !isWordS w then 5 else if (l.take i).any (w == ·) then 7 else r) rest l 0
def settingsB (l : List (Str × List Str)) (i : Nat) (x : Str × List Str) (r : Int) : Int :=
  if !isWordS x.1 then 5 else if x.2.length = 0 then 9 else if 20 < x.2.length then 2 else
    valuesS (prevS l i x.1 r) x.2
def settingsS (l : List (Str × List Str)) : Int := if 30 < l.length then 2 else forT (settingsB l) 0 l 0
/-- Where settings are right, each has a value. -/
theorem forT_keep {α : Type} {p : α → Prop} {body : Nat → α → Int → Int} (h : ∀ i x r, body i x r = 0 → p x ∧ r = 0) : ∀ (xs : List α) (j : Nat), forT body 0 xs j = 0 → ∀ x ∈ xs, p x
  | [], _, _, _, hx => by cases hx
  | y :: ys, j, h0, x, hx => by
    obtain ⟨h1, h2⟩ := h j y _ h0
    rcases List.mem_cons.1 hx with rfl | hx
    · exact h1
    · exact forT_keep h ys (j + 1) h2 x hx
/-- What a configuration is checked for; 'strict': no default may be written. -/
def pairB (l : List (Str × List Str)) (c : List (Str × Str)) (strict : Bool) (i : Nat) (x : Str × Str) (r : Int) : Int :=
  match l.find? (fun s => s.1 == x.1) with
  | none => 5
  | some s => if !(s.2.any (x.2 == ·)) then 1 else if strict && s.2.head? == some x.2 then 3 else prevS c i x.1 r
def pairsS (l : List (Str × List Str)) (c : List (Str × Str)) (strict : Bool) : Int := forT (pairB l c strict) 0 c 0
abbrev settingTy : Ty := .sl (.pr .str (.sl .str))
/-- CheckConfig. -/
def configS (l : List (Str × List Str)) (c : List (Str × Str)) : Int := if settingsS l ≠ 0 then settingsS l else pairsS l c true
theorem ne_zero_dec (n : Int) : (n != 0) = decide (n ≠ 0) := by
  show (!decide (n = 0)) = decide (n ≠ 0)
  cases h : decide (n = 0) with
  | true => exact (decide_eq_false (fun h' => h' (of_decide_eq_true h))).symm
  | false => exact (decide_eq_true (of_decide_eq_false h)).symm
/-- The first element of which something is true, or another thing. -/
def findF {α β : Type} (p : α → Bool) (f : α → β) (d : β) (xs : List α) : β := match xs.find? p with | some x => f x | none => d
theorem forT_find {α β : Type} (p : α → Bool) (f : α → β) (d : β) : ∀ (xs : List α) (j : Nat), forT (fun _ x r => if p x = true then f x else r) d xs j = findF p f d xs
  | [], _ => rfl
  | x :: xs, j => by
    show (if p x = true then f x else forT _ _ xs (j + 1)) = _
    rw [forT_find p f d xs (j + 1)]
    unfold findF
    rw [List.find?_cons]
    cases h : p x <;> simp
/-- The value that a configuration has for a name. -/
def valueS (l : List (Str × List Str)) (c : List (Str × Str)) (n : Str) : Str := findF (fun p => p.1 == n) (fun p => p.2) (findF (fun s => s.1 == n) (fun s => s.2.headD []) [] l) c
/-- ValueOf. -/
def valueOfS (l : List (Str × List Str)) (c : List (Str × Str)) (n : Str) : Str × Int := if configS l c ≠ 0 then ([], configS l c) else if (l.find? (fun s => s.1 == n)).isSome then (valueS l c n, 0) else ([], 5)
theorem awake_eq : law3_awake big = some true := by kernel_rfl
end Go.Proofs.YtbekhaioddmliaaDoor
