/- The machine of values is right about whole functions. -/
import Derived.Test.YtbekhaioddmliaaDoorQBm13
import Derived.Deep.Quiet
import Derived.Laws.IdiomStrings
namespace Go.Proofs.YtbekhaioddmliaaDoor
set_option linter.unusedVariables false
set_option linter.unusedSimpArgs false
open Go Go.RowKit
section
variable {P : Program} {G : World → Prop} {B0 : Nat} {E : Env} {M : Nat → Nat → Prop} {M0 : Nat → Nat → Prop} {w0 : World} {gi g : Gh} {st : St} {a : Act} {w : World}
/-- '[]byte(s)': data in a new block that nothing changes. -/
theorem conv_bytes_wp {R : Type} (hE : EnvOk P G B0 E) {o : Oper} {k : St → Option R} {r : R} {K : Act → World → Prop} {Q : Exit → Act → World → Prop} (hs : Sim G B0 M0 w0 gi g st a w) (hK : Goes G B0 M0 w0 gi k r K)
    {S T : TypeId} {x : Operand} (ho : o.op = .convert S T x) {e : TypeId} {s : List UInt8} (hS : E.ty S = some .str) (hT : E.el T = some (e, .u8)) (hx : RepD (Mof M0 g) w g (.v .str s) (a.eval x))
    (hb : s.length * 24 ≤ 140737488355328) (h : k (st.put o.dst (.v (.sl .u8) s)) = some r) : o.wp P a w K Q := by
  have hx' := RepD.str hx
  obtain ⟨he, bytes, ⟨hu, _⟩, _⟩ := hE.el _ _ _ hT
  have hm : s.length ≤ maxLen := by unfold maxLen; omega
  have hrun := run_bytes_of_string (P := P) w S T e ⟨s.toArray⟩ (und_str (hE.ty _ _ hS)) hu (und_u8 he)
  have hsz : (⟨s.toArray⟩ : ByteArray).size = s.length := rfl
  have hge := grownCap_ge w s.length 0 e
  have hle := grownCap_le_maxLen w s.length 0 e hm
  rw [hsz] at hrun
  generalize hcap : grownCap w s.length 0 e = cap at hrun hge hle
  generalize hrow : bytesRow ⟨s.toArray⟩ cap = row at hrun
  have hget : ∀ j (hj : j < s.length), row[j]? = some (.int .u8 (s[j].toNat : Int)) := fun j hj => by
    rw [← hrow]
    unfold bytesRow
    rw [Array.getElem?_append_left (by simpa using hj)]
    simp [hj]
  have hext : Ext w (w.drew.alloc (.cells row e (row.size, row.size + 1))) := (Ext.refl w).drew.alloc _
  refine wp_ret (s := convert S T (.string ⟨s.toArray⟩)) (by simp [execOp, ho, hx']) hrun ?_
  refine hK _ _ _ _ ((hs.later hext).put o.dst (d := .v (.sl .u8) s) ?_) h
  refine RepC.toV (t := .sl .u8) rfl ⟨some ⟨w.heap.size, 0, none⟩, cap, rfl, hge, hle, fun i hi => ⟨⟨w.heap.size, 0, none⟩, [.int .u8 (s[i].toNat : Int)], rfl, rfl, fun j u hu => ?_⟩⟩
  match j, hu with
  | 0, hu =>
    simp only [List.getElem?_cons_zero, Option.some.injEq] at hu
    subst hu
    have e1 : ((⟨w.heap.size, 0, none⟩ : Addr).add (i * Ty.u8.sz)).add 0 = ⟨w.heap.size, i, none⟩ := by
      rw [Addr.add_box, Addr.add_box]; show (⟨w.heap.size, 0 + i * 1 + 0, none⟩ : Addr) = _; congr 1; omega
    rw [e1]
    refine ⟨?_, fun hM => ?_⟩
    · have hnew : (w.drew.alloc (.cells row e (row.size, row.size + 1))).heap[w.heap.size]? = some (.cells row e (row.size, row.size + 1)) := by
        show (w.heap.push _)[w.heap.size]? = _
        simp
      have hc : ∀ (w : World) (b o : Nat) (c : Array Value) (e : TypeId) (fr : Nat × Nat), w.heap[b]? = some (.cells c e fr) → w.cell? ⟨b, o, none⟩ = c[o]? := fun w b o c e fr h => by
        simp [World.cell?, h]
      rw [hc _ _ _ _ _ _ hnew]
      exact hget i hi
    · have := hs.mlt hM
      exact absurd this (Nat.lt_irrefl _)
theorem opD_sound {R : Type} (hE : EnvOk P G B0 E) {o : Oper} {k : St → Option R} {r : R} {K : Act → World → Prop} {Q : Exit → Act → World → Prop} (hs : Sim G B0 M0 w0 gi g st a w) (hK : Goes G B0 M0 w0 gi k r K)
    (h : opD E o st k = some r) : o.wp P a w K Q := by
  have h0 := h
  unfold opD at h
  simp only [putK_eq] at h
  split at h
  · rename_i ho; exact nil_wp hE hs hK ho h0
  · rename_i T ho; exact alloc_wp hE hs hK ho h0
  · rename_i T x ho; exact box_wp hE hs hK ho h0
  · rename_i T x v ho; exact store_wp hE hs hK ho h0
  · rename_i f first caps ho; exact makeFunc_wp hs hK ho h0
  · rename_i T ho; exact makeMap_wp hE hs hK ho h0
  · rename_i T m key x ho; exact mapUpdate_wp hE hs hK ho h0
  · rename_i T n c ho; exact makeSlice_wp hE hs hK ho h0
  · rename_i T n ps ho; exact buildSlice_wp hE hs hK ho h0
  · rename_i T ps ho; exact buildO_wp hE hs hK ho h0
  · rename_i T x hi ho; exact trunc_wp hE hs hK ho h0
  · rename_i T x lo ho; exact tail_wp hE hs hK ho h0
  · rename_i S T x ho
    split at h
    · rename_i e s hS hT hd
      rcases br_some h with ⟨hc, h⟩ | ⟨_, h⟩
      · have hx := hs.ev x
        rw [hd] at hx
        exact conv_bytes_wp hE hs hK ho hS hT hx (of_decide_eq_true hc) h
      · cases h
    · exact wp_val hE hs hK (by rw [ho] at h ⊢; exact h)
  · rename_i T x ho
    obtain ⟨g', st', hs', h'⟩ := load_soft hs ho h0
    exact wp_val hE hs' hK h'
  · rename_i c ho
    split at h
    · rename_i f hc; exact call_wp hE hs hK ho hc h0
    · rename_i hc; exact clear_wp hE hs hK ho hc h0
    · rename_i t hc; exact callT_wp hE hs hK ho hc h0
    · rename_i hc; exact append_wp hE hs hK ho hc h0
    · exact wp_val hE hs hK (by rw [ho] at h ⊢; exact h)
  · exact wp_val hE hs hK h
theorem evt (hs : Sim G B0 M0 w0 gi g st a w) {t : Nat} {d : D} (h : st.ev (.tmp t) = d) : RepD (Mof M0 g) w g d (a.tmps.getD t undef) := by
  have := hs.ev (.tmp t)
  rw [h] at this; exact this
theorem slot_lt (hs : Sim G B0 M0 w0 gi g st a w) {t : Nat} {d : D} (h : st.ev (.tmp t) = d) (hd : d ≠ .dead := by intro h; cases h) : t < a.tmps.size := by
  rw [hs.sz]
  simp only [St.ev] at h
  split at h
  · rename_i d' hd'
    exact hs.inb t d' hd'
  · exact absurd h.symm hd
theorem getD_of {l : Array Value} {t : Nat} {v : Value} (h : l.getD t undef = v) (hl : t < l.size) : l[t]? = some v := by
  rw [Array.getD_eq_getD_getElem?, Array.getElem?_eq_getElem hl] at h
  rw [Array.getElem?_eq_getElem hl]
  simpa using h
/-- The condition of an operation. -/
theorem guardD_cases {R : Type} {ops : Array Oper} {o : Oper} {run k : St → Option R} {r : R} (hs : Sim G B0 M0 w0 gi g st a w) (h : guardD ops.toList o st run k = some r) :
    (Region.wanted o (yielded ops a.tmps) = true ∧ ∃ st', Sim G B0 M0 w0 gi g st' a w ∧ run st' = some r) ∨
    (Region.wanted o (yielded ops a.tmps) = false ∧ ∃ st', Sim G B0 M0 w0 gi g st' a w ∧ k (st'.put o.dst .skip) = some r) := by
  unfold guardD at h
  simp only [putK_eq] at h
  split at h
  · rename_i hg; exact .inl ⟨by simp [Region.wanted, hg], st, hs, h⟩
  · rename_i j b hg
    split at h
    · rename_i oj hj
      split at h
      · rename_i t ht
        split at h
        · rename_i c hc
          have hv := RepD.bool (evt hs hc)
          have hlt2 : t < a.tmps.size := slot_lt hs hc
          have hy : yielded ops a.tmps j = some c := by
            rw [Array.getElem?_toList] at hj
            simp only [yielded, hj, Option.bind_some, ht, getD_of hv hlt2]
          have hw : Region.wanted o (yielded ops a.tmps) = (c == b) := by
            simp only [Region.wanted, hg, hy]
            cases c <;> cases b <;> rfl
          have hre : Sim G B0 M0 w0 gi g (st.put (some t) (.bl c)) a w := hs.reput (RepD0.toD (d := .bl c) hv)
          rcases br_some h with ⟨e, h2⟩ | ⟨e, h2⟩
          · subst e
            cases b
            · exact .inr ⟨by rw [hw]; rfl, _, hre, h2⟩
            · exact .inl ⟨by rw [hw]; rfl, _, hre, h2⟩
          · subst e
            cases b
            · exact .inl ⟨by rw [hw]; rfl, _, hre, h2⟩
            · exact .inr ⟨by rw [hw]; rfl, _, hre, h2⟩
        · rename_i hc
          have hv : a.tmps.getD t undef = .bool true := evt hs hc
          have hlt2 : t < a.tmps.size := slot_lt hs hc
          have hy : yielded ops a.tmps j = some true := by
            rw [Array.getElem?_toList] at hj
            simp only [yielded, hj, Option.bind_some, ht, getD_of hv hlt2]
          cases b
          · exact .inr ⟨by simp [Region.wanted, hg, hy], st, hs, h⟩
          · exact .inl ⟨by simp [Region.wanted, hg, hy], st, hs, h⟩
        · rename_i hc
          have hv : a.tmps.getD t undef = .bool false := evt hs hc
          have hlt2 : t < a.tmps.size := slot_lt hs hc
          have hy : yielded ops a.tmps j = some false := by
            rw [Array.getElem?_toList] at hj
            simp only [yielded, hj, Option.bind_some, ht, getD_of hv hlt2]
          cases b
          · exact .inl ⟨by simp [Region.wanted, hg, hy], st, hs, h⟩
          · exact .inr ⟨by simp [Region.wanted, hg, hy], st, hs, h⟩
        · rename_i hc
          have hv : a.tmps.getD t undef = undef := evt hs hc
          have hlt2 : t < a.tmps.size := slot_lt hs hc
          have hy : yielded ops a.tmps j = none := by
            rw [Array.getElem?_toList] at hj
            simp only [yielded, hj, Option.bind_some, ht, getD_of hv hlt2]
            rfl
          exact .inr ⟨by simp [Region.wanted, hg, hy], st, hs, h⟩
        · cases h
      · cases h
    · cases h
theorem opsD_sound {R : Type} (hE : EnvOk P G B0 E) {ops : Array Oper} {k : St → Option R} {r : R} {Q : Exit → Act → World → Prop} (hK : Goes G B0 M0 w0 gi k r (Q .normal)) : ∀ (l : List Oper) (g : Gh) (st : St) (a : Act) (w : World),
    Sim G B0 M0 w0 gi g st a w → opsD E ops.toList l st k = some r → wpList P ops Q l a w
  | [], g, st, a, w, hs, h => hK _ _ _ _ hs h
  | o :: l, g, st, a, w, hs, h => by
    unfold wpList
    have h : guardD ops.toList o st (fun st => opD E o st (fun st => opsD E ops.toList l st k)) (fun st => opsD E ops.toList l st k) = some r := h
    rcases guardD_cases hs h with ⟨hw, st', hs', h⟩ | ⟨hw, st', hs', h⟩
    · rw [if_pos hw]
      exact .inl (opD_sound hE hs' (fun g st a w hs h => opsD_sound hE hK l g st a w hs h) h)
    · rw [if_neg (by rw [hw]; simp)]
      exact opsD_sound hE hK l g _ _ w (hs'.put _ (d := .skip) (v := undef) rfl) h
theorem quiet_val {R : Type} (hE : EnvOk P G B0 E) {o : Oper} {k : D → Option R} {r : R} {K : Act → Prop} (hs : Sim G B0 M0 w0 gi g st a w) (h : valD E o.op o.type st k = some r)
    (hK : ∀ d v, RepD (Mof M0 g) w g d v → k d = some r → K (a.put o.dst v)) : o.quiet P a (fun w' => Ext w w') K := by
  obtain ⟨d, v, h1, h2, h3⟩ := valD_sound hE hs h
  refine ⟨v, fun w' hE' => ?_, hK d v h2 h1⟩
  unfold Oper.quietAt
  rw [h3 w' (KeepR.of_ext hE')]
  exact ⟨rfl, rfl⟩
theorem plainRes_two (t u : Sl) (l : List Sl) : plainRes (t :: u :: l) = false := by
  cases t with
  | v ty => cases ty <;> rfl
  | _ => rfl
/-- A result that is no memory is the same in every world. -/
theorem quiet_ret : ∀ (rs : List Sl) (y : SV rs), plainRes rs = true → ∃ v d, lays id rs y = [d] ∧ (∀ (M : Nat → Nat → Prop) (w : World) (g : Gh), RepD M w g d v) ∧ ∀ (M : Nat → Nat → Prop) (w : World) (g : Gh) (vs : List Value), All2 (RepD0 M w g) (lays id rs y) vs → rets vs = v
  | [.v .u8], y, _ => ⟨.int .u8 (UInt8.toNat y.1), .v .u8 y.1, rfl, fun _ _ _ => repU8 _, fun M w g vs h => by
    obtain ⟨v, rfl, h2⟩ := one_of h; exact RepD.u8 (g := g) h2⟩
  | [.v (.int i)], y, _ => ⟨.int i y.1, .v (.int i) y.1, rfl, fun _ _ _ => repInt i _, fun M w g vs h => by
    obtain ⟨v, rfl, h2⟩ := one_of h; exact RepD.int (g := g) h2⟩
  | [.v .bool], y, _ => ⟨.bool y.1, .v .bool y.1, rfl, fun _ _ _ => repBool _, fun M w g vs h => by
    obtain ⟨v, rfl, h2⟩ := one_of h; exact RepD.bool (g := g) h2⟩
  | [.v .str], y, _ => ⟨.string ⟨List.toArray y.1⟩, .v .str y.1, rfl, fun _ _ _ => repStr _, fun M w g vs h => by
    obtain ⟨v, rfl, h2⟩ := one_of h; exact RepD.str (g := g) h2⟩
  | [], _, h => by cases h
  | [.v (.sl _)], _, h => by cases h
  | [.v (.pr _ _)], _, h => by cases h
  | [.v .un], _, h => by cases h
  | [.v (.mp _)], _, h => by cases h
  | [.v (.ptr _)], _, h => by cases h
  | [.v (.np _)], _, h => by cases h
  | [.v (.rc _)], _, h => by cases h
  | [.v (.clo _ _)], _, h => by cases h
  | [.dead], _, h => by cases h
  | [.skip], _, h => by cases h
  | [.nilS], _, h => by cases h
  | [.nilP], _, h => by cases h
  | [.row _], _, h => by cases h
  | [.box _ _], _, h => by cases h
  | [.at_ _], _, h => by cases h
  | [.mref _], _, h => by cases h
  | [.fnc _ _], _, h => by cases h
  | t :: u :: l, _, h => by rw [plainRes_two] at h; cases h
where
  one_of {M : Nat → Nat → Prop} {w : World} {g : Gh} {d : D} {vs : List Value} (h : All2 (RepD0 M w g) [d] vs) : ∃ v, vs = [v] ∧ RepD0 M w g d v := by
    match vs, h with
    | [v], h => exact ⟨v, rfl, h.1⟩
theorem forget_nil : forget [] = id := by
  funext d
  cases d with
  | fnc f l =>
    have : l.any (memN []) = false := by simp [memN]
    simp [forget, this]
  | _ => rfl
theorem quiet_call {R : Type} (hE : EnvOk P G B0 E) {o : Oper} {F : AF} {f : FuncId} (hF : E.fn f o.dst = some F) (hq : (plainRes F.rs && F.bs.isEmpty && F.cs.isEmpty) = true) {k : St → Option R} {r : R} {K : Act → Prop} (hs : Sim G B0 M0 w0 gi g st a w) (hK : ∀ st' a', Sim G B0 M0 w0 gi g st' a' w → k st' = some r → K a')
    {ds : List D} {vs : List Value} (hds : All2 (RepD (Mof M0 g) w g) ds vs) (hex : ∀ w', (∀ w, (callFunc f vs.toArray).run P w = .ok (.enter f vs.toArray) w) → (execOp a.eval o).run P w' = .ok (.enter f vs.toArray) w')
    (h : callD E st o.dst f ds k = some r) : o.quiet P a (fun w' => Ext w w') K := by
  unfold callD at h
  rw [hF] at h
  dsimp only at h
  simp only [Bool.and_eq_true, List.isEmpty_iff] at hq
  obtain ⟨⟨hq1, hq2⟩, hq3⟩ := hq
  obtain ⟨hcf, hcalls⟩ := hE.fn _ _ _ hF
  obtain ⟨ps, bs, rs, cs, RR, out, ff⟩ := F
  dsimp only at hq1 hq2 hq3 h hcalls
  subst hq2 hq3
  split at h
  · obtain ⟨x, ρ, β, h1, _, hn1, _, hx⟩ := mtsK_sound hs ps ds vs hds List.nodup_nil h
    simp only [mbsK] at h1
    split at h1
    · rename_i hlend hlen
      have hρl := List.eq_nil_of_length_eq_zero (Nat.eq_of_beq_eq_true hlen)
      subst hρl
      obtain ⟨z, hz, h3⟩ := bnd_eq_some h1
      dsimp only [List.length_nil, Nat.sub_zero, fresh, List.append_nil, List.nil_append, List.any_nil] at h3
      simp only [show Nat.beq 0 0 = true from rfl, List.append_nil, List.length_nil, liftK_eq, layBsK_eq, mapK_eq, List.map_id, putK_eq, layBs, stale, forget_nil, lift_id] at h3
      obtain ⟨v, d, hd, hrep, huniq⟩ := quiet_ret rs (out z).1 hq1
      have hgn : ∀ j, gsub g [] j = none := fun j => by simp [gsub]
      have hmove : ∀ l (x : SV l), plainRes l = true → lays (nameOf []) l x = lays id l x := by
        intro l x hl
        unfold plainRes at hl
        split at hl <;> first | rfl | cases hl
      rw [hmove _ _ hq1, hd] at h3
      refine ⟨v, fun w' hE' => ?_, hK _ _ (hs.put _ (hrep _ _ _)) h3⟩
      have hs' := hs.later hE'
      have hGw : G w' := hE.stable _ _ _ hs'.gg hs'.ext hs'.gil
      have hargs := (hx [] β (List.prefix_refl _) fun _ h => h).mono fun _ _ hd => RepD0.step (Step.ext hE') hd
      have hfrag := frag_of (y := ()) hs' (bs := []) (ρ := []) (β := β) List.nodup_nil rfl (fun _ => rfl) hargs (fun i blk h => by cases h)
      have hcall := hcalls _ w' _ vs x () z hGw (Nat.le_trans hs'.b0 hs'.size) hfrag hz
      unfold Oper.quietAt
      rw [hex w' (hcf _)]
      refine ⟨rfl, hcall.mono ?_⟩
      rintro e' w'' ⟨vs', g', rfl, hX, _, hfr, _⟩
      exact ⟨by rw [huniq _ _ _ _ hfr.args], hE'.trans (hX.ext fun b ⟨j, x, h1, _⟩ => by rw [hgn] at h1; cases h1)⟩
    · cases h1
  · rename_i hno
    have : rs.all Sl.flat = true := by
      unfold plainRes at hq1
      split at hq1 <;> first | rfl | cases hq1
    simp [this] at hno
theorem opD_quiet {R : Type} (hE : EnvOk P G B0 E) {o : Oper} (hq : quietOp E o = true) {k : St → Option R} {r : R} {K : Act → Prop} (hs : Sim G B0 M0 w0 gi g st a w) (hK : ∀ g' st' a', Sim G B0 M0 w0 gi g' st' a' w → k st' = some r → K a')
    (h : opD E o st k = some r) : o.quiet P a (fun w' => Ext w w') K := by
  have h0 := h
  unfold opD at h
  simp only [putK_eq] at h
  split at h
  · rename_i ho; simp [quietOp, ho] at hq
  · rename_i T ho; simp [quietOp, ho] at hq
  · rename_i T x ho; simp [quietOp, ho] at hq
  · rename_i T x v ho; simp [quietOp, ho] at hq
  · rename_i f first caps ho; simp [quietOp, ho] at hq
  · rename_i T ho; simp [quietOp, ho] at hq
  · rename_i T m key x ho; simp [quietOp, ho] at hq
  · rename_i T n c ho; simp [quietOp, ho] at hq
  · rename_i T n ps ho; simp [quietOp, ho] at hq
  · rename_i T ps ho; simp [quietOp, ho] at hq
  · rename_i T x hi ho; simp [quietOp, ho] at hq
  · rename_i T x lo ho; simp [quietOp, ho] at hq
  · rename_i S T x ho
    have hn : E.el T = none := by simpa [quietOp, ho] using hq
    split at h
    · rename_i hT _; rw [hn] at hT; cases hT
    · exact quiet_val hE hs (k := fun d => k (st.put o.dst d)) (by rw [ho] at h ⊢; exact h) fun d v hr hk => hK _ _ _ (hs.put _ hr) hk
  · rename_i T x ho
    obtain ⟨g', st', hs', h'⟩ := load_soft hs ho h0
    exact quiet_val hE hs' (k := fun d => k (st'.put o.dst d)) h' fun d v hr hk => hK _ _ _ (hs'.put _ hr) hk
  · rename_i c ho
    split at h
    · rename_i f hc
      simp only [quietOp, ho, hc] at hq
      cases hF : E.fn f o.dst with
      | none => rw [hF] at hq; cases hq
      | some F =>
        rw [hF] at hq
        have harr : (c.args.toList.map a.eval).toArray = c.args.map a.eval := by
          apply Array.ext'
          simp
        refine quiet_call hE hF hq hs (fun st a => hK _ st a) (evs_sound hs c.args.toList) (fun w' hcf => ?_) h
        have := hcf w'
        rw [harr] at this ⊢
        simp [execOp, ho, resolve, hc, Act.eval, Deferred.ofValue, invoke, this]
    · rename_i hc; simp [quietOp, ho, hc] at hq
    · rename_i hc; simp [quietOp, ho, hc] at hq
    · rename_i hc; simp [quietOp, ho, hc] at hq
    · exact quiet_val hE hs (k := fun d => k (st.put o.dst d)) (by rw [ho] at h ⊢; exact h) fun d v hr hk => hK _ _ _ (hs.put _ hr) hk
  · exact quiet_val hE hs (k := fun d => k (st.put o.dst d)) h fun d v hr hk => hK _ _ _ (hs.put _ hr) hk
theorem opsD_quiet {R : Type} (hE : EnvOk P G B0 E) {ops : Array Oper} {k : St → Option R} {r : R} {Q : Exit → Act → World → Prop} (hK : Goes G B0 M0 w0 gi k r (Q .normal)) : ∀ (l : List Oper) (g : Gh) (st : St) (a : Act), l.all (quietOp E) = true →
    Sim G B0 M0 w0 gi g st a w → opsD E ops.toList l st k = some r → wpQuiet P ops (fun w' => Ext w w') (fun a' => ∀ w', Ext w w' → Q .normal a' w') l a
  | [], g, st, a, _, hs, h => fun w' hE' => hK _ _ _ _ (hs.later hE') h
  | o :: l, g, st, a, hq, hs, h => by
    simp only [List.all_cons, Bool.and_eq_true] at hq
    unfold wpQuiet
    have h : guardD ops.toList o st (fun st => opD E o st (fun st => opsD E ops.toList l st k)) (fun st => opsD E ops.toList l st k) = some r := h
    rcases guardD_cases hs h with ⟨hw, st', hs', h⟩ | ⟨hw, st', hs', h⟩
    · rw [if_pos hw]
      exact opD_quiet hE hq.1 hs' (fun _ st a hs h => opsD_quiet hE hK l _ st a hq.2 hs h) h
    · rw [if_neg (by rw [hw]; simp)]
      exact opsD_quiet hE hK l _ _ _ hq.2 (hs'.put _ (d := .skip) (v := undef) rfl) h
end
end Go.Proofs.YtbekhaioddmliaaDoor
