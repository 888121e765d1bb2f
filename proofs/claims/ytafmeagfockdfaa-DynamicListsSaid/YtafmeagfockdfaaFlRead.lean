/-
  dynamic.Read, called: it returns what rdL tells.
-/
import Derived.Test.YtafmeagfockdfaaFlDy
import Derived.Maps.Own
import Derived.Maps.Views
import Derived.WalkSmall
import Derived.Carry
import Derived.WalkMore
import Derived.Laws.ResultCell
import Derived.Laws.Rows
import Derived.Deep.CutBlock
namespace Go.Proofs.Ytafmeagfockdfaa.Fl
open Go.Proofs.Ytafmeagfockdfaa.Evs Go.RowKit Go.Proofs.YtafmeagfockdfaaW.PrintWords Go.Proofs.YtafmeagfockdfaaW.PrintLast Go.Proofs.YtafmeagfockdfaaW.PrintMore
set_option linter.unusedVariables false
set_option linter.unusedSimpArgs false
attribute [local go_sem] max2_int min2_int max_two min_two

/-- What the reading has come to: the list, the eight fields (cells 1 to 8), the tags that it has met. -/
structure DS where
  need : List Int
  fs : List Int
  seen : List Int
def rdStep (d : DS) (tag n : Int) : Bool × DS :=
  if tag = 1 then (decide (n ≤ 1099511627776) && decide ((d.need.length : Int) < 64), { d with need := d.need ++ [wrap64 n] })
  else if tag = 9 ∨ tag = 11 then (n == 24 && !d.seen.contains tag, d)
  else match fieldIx tag with
    | some i => (decide (n ≤ 1099511627776) && !d.seen.contains tag, { d with fs := d.fs.set (i - 1) (wrap64 n) })
    | none => (true, d)
def rdL (s : ByteArray) : Nat → Nat → DS → Bool × DS
  | 0, _, d => (false, d)
  | k + 1, i, d =>
    if (getT s (16 * (i : Int)) 8).2 = true ∧ (getT s (16 * (i : Int) + 8) 8).2 = true then
      if (getT s (16 * (i : Int)) 8).1 = 0 then (true, d)
      else if (rdStep d (getT s (16 * (i : Int)) 8).1 (getT s (16 * (i : Int) + 8) 8).1).1 = true then
        rdL s k (i + 1) { (rdStep d (getT s (16 * (i : Int)) 8).1 (getT s (16 * (i : Int) + 8) 8).1).2 with seen := (getT s (16 * (i : Int)) 8).1 :: (rdStep d (getT s (16 * (i : Int)) 8).1 (getT s (16 * (i : Int) + 8) 8).1).2.seen }
      else (false, (rdStep d (getT s (16 * (i : Int)) 8).1 (getT s (16 * (i : Int) + 8) 8).1).2)
    else (false, d)
def ds0 : DS := ⟨[], [0, 0, 0, 0, 0, 0, 0, 0], []⟩
def rdAll (s : ByteArray) : Bool × DS := rdL s (s.size / 16 + 1) 0 ds0
/-- What comes back: the list, the fields, the error's number. -/
def rdOut (s : ByteArray) : List Int × List Int × Int :=
  if (rdAll s).1 = true ∧ ((rdAll s).2.fs.getD 5 0).tmod 24 = 0 then ((rdAll s).2.need, (rdAll s).2.fs, 0) else ([], [0, 0, 0, 0, 0, 0, 0, 0], 17)
def dynamic_Read.f (s : ByteArray) : Option (List Int × Int × Int × Int × Int × Int × Int × Int × Int × Int) :=
  if s.size ≤ 100000000000 then
    some ((rdOut s).1, (rdOut s).2.1.getD 0 0, (rdOut s).2.1.getD 1 0, (rdOut s).2.1.getD 2 0, (rdOut s).2.1.getD 3 0, (rdOut s).2.1.getD 4 0, (rdOut s).2.1.getD 5 0, (rdOut s).2.1.getD 6 0, (rdOut s).2.1.getD 7 0, (rdOut s).2.2)
  else none

/-- The map of the tags met. -/
structure SeenM (gm n : Nat) (l : List Int) (W : World) : Prop where
  own : ∃ D : DataW Unit, W.ownsMap Try.prog 133 (plainElem Try.prog 4) gm n D ∧ Maps.IsMap D ∧ ∀ t, (Lit.int .u64 t).wf = true → D.atKey (.int .u64 t) (.lit (.bool false)) = .lit (.bool (l.contains t))
set_option maxRecDepth 100000 in
theorem SeenM.lookup {gm n : Nat} {l : List Int} {W : World} (h : SeenM gm n l W) (t : Int) (ht : (Lit.int .u64 t).wf = true) :
    (Instr.lookup 141 (.map (some gm)) (.int .u64 t) false).run Try.prog W = .ok (.bool (l.contains t)) W := by
  obtain ⟨D, h1, _, h3⟩ := h.own
  obtain ⟨v, ps, hr, hv⟩ := h1.lookup (z := .bool false) (zd := .lit (.bool false)) (zp := []) (Maps.int_keyed Try.underlying133) Try.underlying141 (by go_simp) (plainElem_bool Try.underlying4 false) (Maps.keyOf_int_mk Try.underlying133 ht)
  rw [h3 t ht] at hv
  have : v = .bool (l.contains t) := by
    unfold plainElem at hv
    rw [Try.underlying4] at hv
    cases v <;> simp at hv
    rw [hv.1]; simp
  rw [← this]
  exact hr
theorem SeenM.put {gm n : Nat} {l : List Int} {t : Int} (D : DataW Unit) (W' : World) (h2 : Maps.IsMap D) (h3 : ∀ t, (Lit.int .u64 t).wf = true → D.atKey (.int .u64 t) (.lit (.bool false)) = .lit (.bool (l.contains t)))
    (h : W'.ownsMap Try.prog 133 (plainElem Try.prog 4) gm (n + 1) (D.put (.int .u64 t) (.lit (.bool true)))) : SeenM gm (n + 1) (t :: l) W' := by
  refine ⟨_, h, ?_, fun u hu => ?_⟩
  · obtain ⟨es, rfl⟩ := h2
    exact ⟨_, rfl⟩
  · by_cases he : u = t
    · subst he
      rw [Maps.atKey_put_same h2 (show WideAt.IsKeyLit (.int .u64 u) from trivial)]
      simp
    · rw [Maps.atKey_put_other (by intro e; injection e with _ e; exact he e), h3 u hu]
      simp [List.contains_cons, he]
theorem SeenM.below {gm n : Nat} {l : List Int} {W W' : World} (h : SeenM gm n l W) (hb : W.grownBy W' none) : SeenM gm n l W' := by
  obtain ⟨D, h1, h2, h3⟩ := h.own
  exact ⟨D, h1.kept hb (by simp), h2, h3⟩

structure ReadW (gr gd gm n : Nat) (v : Value) (d : DS) (w W : World) : Prop where
  bd : W.heap[gd]? = some (.cells (v :: d.fs.map (Value.int .i64)).toArray 54 (0, 0))
  br : W.heap[gr]? = some (.cells #[.slice none 0 0, .int .i64 0, .int .i64 0, .int .i64 0, .int .i64 0, .int .i64 0, .int .i64 0, .int .i64 0, .int .i64 0] 54 (0, 0))
  ln : d.fs.length = 8
  own : Kd.R (Kd.int .i64) 3 W w.heap.size (fun k => k ≠ gr ∧ k ≠ gd ∧ k ≠ gm) v d.need
  mp : SeenM gm n d.seen W
  bel : Below w.heap.size w W
  lo : w.heap.size ≤ gr
  l1 : gr < gd
  l2 : gd < gm
  sz : gm < W.heap.size
theorem ReadW.below {gr gd gm n : Nat} {v : Value} {d : DS} {w W W' : World} (h : ReadW gr gd gm n v d w W) (hb : Below W.heap.size W W') : ReadW gr gd gm n v d w W' :=
  ⟨blk_below h.bd hb, blk_below h.br hb, h.ln, Kd.R_below h.own hb, h.mp.below (grown_of_below hb none), h.bel.trans (hb.mono h.bel.size), h.lo, h.l1, h.l2, Nat.lt_of_lt_of_le h.sz hb.size⟩
theorem map_event {ops : Array Oper} {rest : List Oper} {o : Oper} {a : Act} {Q : Exit → Act → World → Prop} {W : World} (hgd : o.guard = none) {N : Tmp} (_hd : o.dst = some N)
    (hrun : (execOp a.eval o).run Try.prog W = .ok (.value (.map (some W.heap.size))) (W.alloc (.map #[] 0)))
    (h : ∀ g, g = W.heap.size → ∀ w1, SeenM g 0 [] w1 → Below W.heap.size W w1 → g < w1.heap.size → wpList Try.prog ops Q rest (a.put o.dst (.map (some g))) w1) : wpList Try.prog ops Q (o :: rest) a W :=
  Kd.event_run hgd hrun (h _ rfl _ ⟨.map [], World.ownsMap_made _ _ _ _, ⟨_, rfl⟩, fun t _ => rfl⟩ (below_alloc (Below.refl _ _) _) (by simp))
theorem rd_cut {s : ByteArray} {i k : Nat} (h : i + k = s.size / 16 + 1) (h2 : 16 * i ≤ s.size) : 0 < k := by omega

theorem getT_u64 {s : ByteArray} {a t : Int} {b : Bool} (h : getT s a 8 = (t, b)) : (Lit.int .u64 t).wf = true ∧ 0 ≤ t ∧ t < 18446744073709551616 := by
  have h2 : 0 ≤ t ∧ t < 18446744073709551616 := by
    unfold getT at h
    split at h
    · injection h with h _
      subst h
      have h1 := val_lt ((s.data.toList.drop a.toNat).take (8 : Int).toNat)
      have h3 : ((s.data.toList.drop a.toNat).take (8 : Int).toNat).length ≤ 8 := by rw [List.length_take]; exact Nat.min_le_left _ _
      have h4 : 256 ^ ((s.data.toList.drop a.toNat).take (8 : Int).toNat).length ≤ 256 ^ 8 := Nat.pow_le_pow_right (by omega) h3
      have h5 : (256 : Nat) ^ 8 = 18446744073709551616 := by decide
      omega
    · injection h with h _
      omega
  exact ⟨by simp [Lit.wf, IntKind.min, IntKind.max, IntKind.bits, IntKind.signed]; omega, h2⟩
theorem rdL_step {s : ByteArray} {k1 i : Nat} {d : DS} {z : Bool × DS} {at_ t1 t2 : Int} {b1 b2 : Bool} (h : rdL s (k1 + 1) i d = z) (hat : at_ = 16 * (i : Int)) (h1 : getT s at_ 8 = (t1, b1)) (h2 : getT s (at_ + 8) 8 = (t2, b2)) :
    z = if b1 = true ∧ b2 = true then if t1 = 0 then (true, d) else if (rdStep d t1 t2).1 = true then rdL s k1 (i + 1) { (rdStep d t1 t2).2 with seen := t1 :: (rdStep d t1 t2).2.seen } else (false, (rdStep d t1 t2).2) else (false, d) := by
  rw [hat] at h1 h2
  rw [← h]
  simp only [rdL, h1, h2]
theorem getT_true {s : ByteArray} {a t : Int} (h : getT s a 8 = (t, true)) : a + 8 ≤ s.size := by
  unfold getT at h
  split at h
  · omega
  · cases h
theorem st_true {s : ByteArray} {k1 i : Nat} {d d' : DS} {z : Bool × DS} {t1 t2 : Int} (h : z = if (rdStep d t1 t2).1 = true then rdL s k1 (i + 1) { (rdStep d t1 t2).2 with seen := t1 :: (rdStep d t1 t2).2.seen } else (false, (rdStep d t1 t2).2)) (e : rdStep d t1 t2 = (true, d')) :
    rdL s k1 (i + 1) { d' with seen := t1 :: d'.seen } = z := by rw [h, e]; rfl
theorem st_false {s : ByteArray} {k1 i : Nat} {d d' : DS} {z : Bool × DS} {t1 t2 : Int} (h : z = if (rdStep d t1 t2).1 = true then rdL s k1 (i + 1) { (rdStep d t1 t2).2 with seen := t1 :: (rdStep d t1 t2).2.seen } else (false, (rdStep d t1 t2).2)) (e : rdStep d t1 t2 = (false, d')) :
    z = (false, d') := by rw [h, e]; rfl
theorem w16 {s : ByteArray} {i : Nat} {at_ : Int} (h : at_ = 16 * (i : Int)) (h2 : 16 * i ≤ s.size) (hs : s.size ≤ 100000000000) : wrap64 (at_ + 16) = at_ + 16 := by unfold wrap64; omega
theorem SeenM.same {gm n : Nat} {l : List Int} {W W' : World} (h : SeenM gm n l W) (hb : W'.heap[gm]? = W.heap[gm]?) : SeenM gm n l W' := by
  obtain ⟨D, ⟨es, clock, h1, h4⟩, h2, h3⟩ := h.own
  exact ⟨D, ⟨es, clock, hb.trans h1, h4⟩, h2, h3⟩
theorem setCell_size (W : World) (g i : Nat) (u : Value) : W.heap.size ≤ (W.setCell ⟨g, i, none⟩ u).heap.size := ((Below.refl g W).setCell (p := ⟨g, i, none⟩) (Nat.le_refl _) u).size
theorem ReadW.app {gr gd gm n : Nat} {v v1 : Value} {d : DS} {w W w1 : World} {x : Int} (h : ReadW gr gd gm n v d w W) (ho : Kd.R (Kd.int .i64) 3 w1 w.heap.size (fun k => k ≠ gr ∧ k ≠ gd ∧ k ≠ gm) v1 (d.need ++ [x])) (hbe : Below w.heap.size w w1) (hg : W.grownBy w1 v.ownBlock) :
    ReadW gr gd gm n v1 { d with need := d.need ++ [x] } w (w1.setCell ⟨gd, 0, none⟩ v1) := by
  have e1 := Kd.R_away h.own (g := gd) (fun _ hk => hk.2.1)
  have e2 := Kd.R_away h.own (g := gr) (fun _ hk => hk.1)
  have e3 := Kd.R_away h.own (g := gm) (fun _ hk => hk.2.2)
  have l1 := h.l1
  have l2 := h.l2
  refine ⟨?_, ?_, h.ln, ?_, ?_, ?_, h.lo, h.l1, h.l2, Nat.lt_of_lt_of_le h.sz (Nat.le_trans hg.size (setCell_size _ _ _ _))⟩
  · have := blk_set (blk_grown h.bd hg e1) 0 v1
    simpa using this
  · exact blk_far (blk_grown h.br hg e2) (p := ⟨gd, 0, none⟩) (by show gr ≠ gd; omega) v1
  · exact Kd.R_step ho (fun k hk _ => Below.heap_setCell w1 ⟨gd, 0, none⟩ v1 k hk.2.1)
  · exact (h.mp.same (hg.block gm h.sz e3)).same (Below.heap_setCell w1 ⟨gd, 0, none⟩ v1 gm (by show gm ≠ gd; omega))
  · exact hbe.setCell (p := ⟨gd, 0, none⟩) (by show w.heap.size ≤ gd; have := h.lo; omega) v1
theorem fieldIx_le {t : Int} {ix : Nat} (h : fieldIx t = some ix) : 1 ≤ ix ∧ ix ≤ 8 := by
  unfold fieldIx at h
  repeat' split at h
  all_goals first | (injection h with h; omega) | cases h
theorem field_cell {d : DS} {t : Int} {ix : Nat} (hl : d.fs.length = 8) (h : fieldIx t = some ix) : ∃ old, ∀ v : Value, ((v :: d.fs.map (Value.int .i64)).toArray)[ix]? = some (.int .i64 old) := by
  obtain ⟨h1, h2⟩ := fieldIx_le h
  refine ⟨d.fs[ix - 1]'(by omega), fun v => ?_⟩
  obtain ⟨j, rfl⟩ : ∃ j, ix = j + 1 := ⟨ix - 1, by omega⟩
  simp [List.getElem?_eq_getElem (show j < d.fs.length by omega)]
theorem ReadW.put {gr gd gm n : Nat} {v : Value} {d : DS} {w W : World} {t : Int} {ix : Nat} (h : ReadW gr gd gm n v d w W) (hix : fieldIx t = some ix) (x : Int) :
    ReadW gr gd gm n v { d with fs := d.fs.set (ix - 1) x } w (W.setCell ⟨gd, ix, none⟩ (.int .i64 x)) := by
  obtain ⟨h1, h2⟩ := fieldIx_le hix
  have l1 := h.l1
  have l2 := h.l2
  refine ⟨?_, ?_, by simp [h.ln], ?_, ?_, ?_, h.lo, h.l1, h.l2, Nat.lt_of_lt_of_le h.sz (setCell_size _ _ _ _)⟩
  · have := blk_set h.bd ix (.int .i64 x)
    rw [this]
    obtain ⟨j, rfl⟩ : ∃ j, ix = j + 1 := ⟨ix - 1, by omega⟩
    simp [List.map_set]
  · exact blk_far h.br (p := ⟨gd, ix, none⟩) (by show gr ≠ gd; omega) _
  · exact Kd.R_step h.own (fun k hk _ => Below.heap_setCell W ⟨gd, ix, none⟩ _ k hk.2.1)
  · exact h.mp.same (Below.heap_setCell W ⟨gd, ix, none⟩ _ gm (by show gm ≠ gd; omega))
  · exact h.bel.setCell (p := ⟨gd, ix, none⟩) (by show w.heap.size ≤ gd; have := h.lo; omega) _
theorem ReadW.note {gr gd gm n : Nat} {v : Value} {d : DS} {w W w1 : World} {t : Int} {D : DataW Unit} (h : ReadW gr gd gm n v d w W) (h2 : Maps.IsMap D) (h3 : ∀ t, (Lit.int .u64 t).wf = true → D.atKey (.int .u64 t) (.lit (.bool false)) = .lit (.bool (d.seen.contains t)))
    (ho : w1.ownsMap Try.prog 133 (plainElem Try.prog 4) gm (n + 1) (D.put (.int .u64 t) (.lit (.bool true)))) (hg : W.grownBy w1 (some gm)) : ReadW gr gd gm (n + 1) v { d with seen := t :: d.seen } w w1 := by
  have l1 := h.l1
  have l2 := h.l2
  have sz := h.sz
  refine ⟨blk_grown h.bd hg (by intro e; injection e with e; omega), blk_grown h.br hg (by intro e; injection e with e; omega), h.ln, ?_, SeenM.put D w1 h2 h3 ho, ?_, h.lo, h.l1, h.l2, Nat.lt_of_lt_of_le h.sz hg.size⟩
  · exact Kd.R_step h.own (fun k hk hlt => hg.block k hlt (by intro e; injection e with e; exact hk.2.2 e))
  · exact h.bel.grown hg h.bel.size (by intro k e; injection e with e; have := h.lo; omega)
theorem eight {l : List Int} (h : l.length = 8) : ∃ a b c d e f g i, l = [a, b, c, d, e, f, g, i] := by
  match l, h with
  | [a, b, c, d, e, f, g, i], _ => exact ⟨a, b, c, d, e, f, g, i, rfl⟩
theorem results_cell_row2 {P : Program} {fn : Func} {p u : Tmp} {ty : TypeId} (h : fn.results = #[.cell p ty, .tmp u]) (tmps : Array Value) (w : World) (g : Nat) (t : TypeId) (cs : Array Value) (fr : Nat × Nat) (d : TypeDesc)
    (hp : tmps.getD p undef = .pointer (some ⟨g, 0, none⟩)) (hg : w.heap[g]? = some (.cells cs t fr))
    (hu : P.underlying ty = some d) (hd : (match d with | .struct _ | .array _ _ => true | _ => false) = true) (hi : (P.info? ty).map (·.size) = some cs.size) :
    (results fn tmps).run P w = .ok (.tuple #[.agg cs, tmps.getD u undef]) w := by
  rw [results_cell_tmp h, hp]
  simp [asAddr, run_loadVar_row w g t ty cs fr d hg hu hd hi, Result.andThen]
theorem set1 {W W' : World} {g B : Nat} {w : World} {cs : Array Value} (h : W.heap[g]? = some (.cells cs 54 (0, 0))) (hb : Below B w W) (hB : B ≤ g) (i : Nat) (v : Value) (cs' : Array Value) (e : cs.setIfInBounds i v = cs') (hk : ∀ k, k ≠ g → W.heap[k]? = W'.heap[k]?) :
    (W.setCell ⟨g, i, none⟩ v).heap[g]? = some (.cells cs' 54 (0, 0)) ∧ (∀ k, k ≠ g → (W.setCell ⟨g, i, none⟩ v).heap[k]? = W'.heap[k]?) ∧ Below B w (W.setCell ⟨g, i, none⟩ v) :=
  ⟨by rw [← e]; exact blk_set h i v, fun k hn => (Below.heap_setCell W ⟨g, i, none⟩ v k hn).trans (hk k hn), hb.setCell (p := ⟨g, i, none⟩) hB v⟩
theorem set9 {W : World} {g B : Nat} {w : World} {o0 o1 o2 o3 o4 o5 o6 o7 o8 : Value} (h : W.heap[g]? = some (.cells #[o0, o1, o2, o3, o4, o5, o6, o7, o8] 54 (0, 0))) (hb : Below B w W) (hB : B ≤ g) (v0 v1 v2 v3 v4 v5 v6 v7 v8 : Value) :
    ∃ W9, (((((((((W.setCell ⟨g, 0, none⟩ v0).setCell ⟨g, 1, none⟩ v1).setCell ⟨g, 2, none⟩ v2).setCell ⟨g, 3, none⟩ v3).setCell ⟨g, 4, none⟩ v4).setCell ⟨g, 5, none⟩ v5).setCell ⟨g, 6, none⟩ v6).setCell ⟨g, 7, none⟩ v7).setCell ⟨g, 8, none⟩ v8) = W9 ∧ W9.heap[g]? = some (.cells #[v0, v1, v2, v3, v4, v5, v6, v7, v8] 54 (0, 0)) ∧ (∀ k, k ≠ g → W9.heap[k]? = W.heap[k]?) ∧ Below B w W9 := by
  obtain ⟨h0, k0, b0⟩ := set1 (W' := W) h hb hB 0 v0 #[v0, o1, o2, o3, o4, o5, o6, o7, o8] rfl (fun k _ => rfl)
  obtain ⟨h1, k1, b1⟩ := set1 (W' := W) h0 b0 hB 1 v1 #[v0, v1, o2, o3, o4, o5, o6, o7, o8] rfl (k0)
  obtain ⟨h2, k2, b2⟩ := set1 (W' := W) h1 b1 hB 2 v2 #[v0, v1, v2, o3, o4, o5, o6, o7, o8] rfl (k1)
  obtain ⟨h3, k3, b3⟩ := set1 (W' := W) h2 b2 hB 3 v3 #[v0, v1, v2, v3, o4, o5, o6, o7, o8] rfl (k2)
  obtain ⟨h4, k4, b4⟩ := set1 (W' := W) h3 b3 hB 4 v4 #[v0, v1, v2, v3, v4, o5, o6, o7, o8] rfl (k3)
  obtain ⟨h5, k5, b5⟩ := set1 (W' := W) h4 b4 hB 5 v5 #[v0, v1, v2, v3, v4, v5, o6, o7, o8] rfl (k4)
  obtain ⟨h6, k6, b6⟩ := set1 (W' := W) h5 b5 hB 6 v6 #[v0, v1, v2, v3, v4, v5, v6, o7, o8] rfl (k5)
  obtain ⟨h7, k7, b7⟩ := set1 (W' := W) h6 b6 hB 7 v7 #[v0, v1, v2, v3, v4, v5, v6, v7, o8] rfl (k6)
  obtain ⟨h8, k8, b8⟩ := set1 (W' := W) h7 b7 hB 8 v8 #[v0, v1, v2, v3, v4, v5, v6, v7, v8] rfl (k7)
  exact ⟨_, rfl, h8, k8, b8⟩
set_option maxHeartbeats 4000000 in
set_option maxRecDepth 100000 in
theorem read_main (s : ByteArray) (w : World) (hs : s.size ≤ 100000000000) :
    Calls Try.prog 48 #[.string s] w fun e w' => ∃ v0, e = .returned (.tuple #[.agg (v0 :: (rdOut s).2.1.map (Value.int .i64)).toArray, .int .i64 (rdOut s).2.2]) ∧
      Kd.R (Kd.int .i64) 3 w' w.heap.size (fun _ => True) v0 (rdOut s).1 ∧ (rdOut s).2.1.length = 8 ∧ Below w.heap.size w w' := by
  have HS := Aside0.mk hs
  clear hs
  go_enter Try.func48, Try.ntmps48
  go_wp2_with ((with_reducible refine gate_dst (N := 2) rfl ?_); refine box_event ?hg (N := 2) ?hd (cs := #[.slice none 0 0, .int .i64 0, .int .i64 0, .int .i64 0, .int .i64 0, .int .i64 0, .int .i64 0, .int .i64 0, .int .i64 0]) (t := 54) ?hr ?_; (case hd => rfl); (case hg => rfl); (case hr => first | (go_simp; done) | (go_simp; rfl)); intro gr hgr w1 hbr hb1; have BR := Aside0.mk hbr; have HW1 := Aside0.mk hb1; have GR := Aside0.mk hgr; have HG1 := Aside0.mk (show gr < w1.heap.size from blk_lt hbr); clear hbr hb1 hgr)
  go_step3
  go_wp2_with (first | ((with_reducible refine gate_dst (N := 4) rfl ?_); refine box_event ?hg (N := 4) ?hd (cs := #[.slice none 0 0, .int .i64 0, .int .i64 0, .int .i64 0, .int .i64 0, .int .i64 0, .int .i64 0, .int .i64 0, .int .i64 0]) (t := 54) ?hr ?_; (case hd => rfl); (case hg => rfl); (case hr => first | (go_simp; done) | (go_simp; rfl)); intro gd hgd w2 hbd hb2; have BD := Aside0.mk hbd; have BR2 := Aside0.mk (blk_below BR.out hb2); have HW2 := Aside0.mk (HW1.out.trans (hb2.mono HW1.out.size)); have GD := Aside0.mk hgd; have HG2 := Aside0.mk hb2.size; clear hbd hb2 hgd BR HW1; have BDx := Aside0.mk (show w2.heap[gd]? = some (.cells (Value.slice none 0 0 :: ds0.fs.map (Value.int .i64)).toArray 54 (0, 0)) from BD.out); clear BD; have HL0 := Aside0.mk (show w.heap.size ≤ gr ∧ gr < gd ∧ gd < w2.heap.size ∧ gd = w1.heap.size ∧ w1.heap.size ≤ w2.heap.size from ⟨Nat.le_of_eq GR.out.symm, by have := GD.out; have := blk_lt BDx.out; have := GR.out; have := HG1.out; omega, blk_lt BDx.out, GD.out, HG2.out⟩); clear GR GD HG1 HG2) | ((with_reducible refine gate_dst (N := 13) rfl ?_); refine map_event ?hg (N := 13) ?hd ?hr ?_; (case hd => rfl); (case hg => rfl); (case hr => first | (go_simp; done) | (go_simp; rfl)); intro gm hgm w3 hsm hb3 hgl; have HR := Aside0.mk (show ReadW gr gd gm 0 (.slice none 0 0) ds0 w w3 from ⟨blk_below BDx.out hb3, blk_below BR2.out hb3, rfl, Kd.R_nil _ _ _ _ _, hsm, HW2.out.trans (hb3.mono HW2.out.size), HL0.out.1, HL0.out.2.1, by have := HL0.out.2.2.1; omega, hgl⟩); clear hgm hsm hb3 hgl BDx BR2 HW2 HL0))
  go_step3
  go_upto_block 0 with (fail)
  go_cut [6] (fun v6 wc => ∃ (n : Nat) (v : Value) (r : Bool) (d : DS), v6 = .bool r ∧ Aside0 (rdAll s = (r, d)) ∧ Aside0 (ReadW gr gd gm n v d w wc))
  case first =>
    go_wp2_with fail
    go_loopg [6, 7] (s.size / 16 + 1) (fun kq v6 v7 wr => ∃ (i n : Nat) (v : Value) (d : DS) (at_ : Int), v6 = .bool true ∧ v7 = .int .i64 at_ ∧ Aside0 (at_ = 16 * (i : Int)) ∧ Aside0 (i + kq = s.size / 16 + 1 ∧ 16 * i ≤ s.size ∧ n ≤ i ∧ d.need.length ≤ i) ∧ Aside0 (rdL s kq i d = rdAll s) ∧ Aside0 (ReadW gr gd gm n v d w wr))
    case atStart => exact ⟨0, 0, _, ds0, 0, rfl, rfl, ⟨rfl⟩, ⟨by omega, by omega, by omega, by simp [ds0]⟩, ⟨rfl⟩, HR⟩
    case round =>
      clear HR
      obtain ⟨i, n, v, d, at_, rfl, rfl, HAT, HI, HD, HR⟩ := hrel
      cases gk with
      | zero => exact absurd HI.out (by omega)
      | succ k1 =>
        obtain ⟨t1, b1, hg1⟩ : ∃ t b, getT s at_ 8 = (t, b) := ⟨_, _, rfl⟩
        obtain ⟨t2, b2, hg2⟩ : ∃ t b, getT s (at_ + 8) 8 = (t, b) := ⟨_, _, rfl⟩
        obtain ⟨ka, hka⟩ := (get_ev s at_ 8 (by have := HS.out; omega)).rounds
        obtain ⟨kb, hkb⟩ := (get_ev s (at_ + 8) 8 (by have := HS.out; omega)).rounds
        rw [hg1] at hka
        rw [hg2] at hkb
        have HT1 := Aside0.mk (getT_u64 hg1)
        have HT2 := Aside0.mk (getT_u64 hg2)
        have HD2 := Aside0.mk (rdL_step HD.out HAT.out hg1 hg2)
        have HKA := Aside0.mk hka
        have HKB := Aside0.mk hkb
        obtain ⟨a8, ha8⟩ : ∃ j, at_ + 8 = j := ⟨_, rfl⟩
        have hw8 : wrap64 (at_ + 8) = a8 := by have := HAT.out; have := HI.out; have := HS.out; rw [← ha8]; unfold wrap64; omega
        rw [ha8] at HKB
        have HT3 := Aside0.mk (show b2 = true → a8 + 8 ≤ s.size from fun hb => by subst hb; have := getT_true hg2; omega)
        have HA8 := Aside0.mk ha8
        clear hka hkb hg1 hg2 ha8 HD
        go_wp2_with fail
        refine (octet_Get.calls ka s at_ 8 _ _ _ HKA.out).mono ?_
        rintro e u1 ⟨rfl, hb1⟩
        have HR1 := Aside0.mk (HR.out.below hb1.below)
        clear hb1 HR
        go_wp2_with fail
        rw [hw8]
        refine (octet_Get.calls kb s a8 8 _ _ _ HKB.out).mono ?_
        rintro e u2 ⟨rfl, hb2⟩
        have HR2 := Aside0.mk (HR1.out.below hb2.below)
        clear hb2 HR1 HKA HKB hw8
        have hno : b1 = true → b2 = true → rdAll s = if t1 = 0 then (true, d) else if (rdStep d t1 t2).1 = true then rdL s k1 (i + 1) { (rdStep d t1 t2).2 with seen := t1 :: (rdStep d t1 t2).2.seen } else (false, (rdStep d t1 t2).2) := fun hx hy => by rw [HD2.out, if_pos ⟨hx, hy⟩]
        have hye : ¬ (b1 = true ∧ b2 = true) → rdAll s = (false, d) := fun hx => by rw [HD2.out, if_neg hx]
        have HN := Aside0.mk hno
        have HY := Aside0.mk hye
        clear hno hye HD2
        cases b1 with
        | false =>
          have HZ := Aside0.mk (HY.out (by simp))
          clear HY HN
          go_wp2_with fail
          go_meet
          case rel => exact ⟨_, _, false, d, rfl, HZ, HR2⟩
        | true =>
          cases b2 with
          | false =>
            have HZ := Aside0.mk (HY.out (by simp))
            clear HY HN
            go_wp2_with fail
            go_meet
            case rel => exact ⟨_, _, false, d, rfl, HZ, HR2⟩
          | true =>
            have HD := Aside0.mk (HN.out rfl rfl)
            clear HY HN
            by_cases ct : t1 = 0
            · subst ct
              have HZ := Aside0.mk (HD.out.trans (if_pos rfl))
              clear HD
              go_wp2_with fail
              go_meet
              case rel => exact ⟨_, _, true, d, rfl, HZ, HR2⟩
            · have HZ := Aside0.mk (HD.out.trans (if_neg ct))
              have ctb : (t1 == 0) = false := beq_eq_false_iff_ne.mpr ct
              clear HD ct
              go_wp2_with fail
              refine (field_calls gd t1 _).mono ?_
              rintro e u3 ⟨rfl, rfl⟩
              by_cases c1 : t1 = 1
              · subst c1
                obtain ⟨A, c, rfl⟩ := Kd.R_slice HR2.out.own
                have hc0 := (blk_cell HR2.out.bd 0).trans (rfl : _ = some (Value.slice A d.need.length c))
                have hf0 := blk_frozen HR2.out.bd 0
                by_cases cn : t2 ≤ 1099511627776
                · have cnb : decide (t2 ≤ 1099511627776) = true := decide_eq_true cn
                  by_cases cl : (d.need.length : Int) < 64
                  · have clb : decide ((d.need.length : Int) < 64) = true := decide_eq_true cl
                    have hst : rdStep d 1 t2 = (true, { d with need := d.need ++ [wrap64 t2] }) := by unfold rdStep; rw [if_pos rfl, cnb, clb]; rfl
                    have HST := Aside0.mk hst
                    clear hst cn cl
                    have HSZ := Aside0.mk (⟨HR2.out.bel.size, HR2.out.lo, HR2.out.l1, HR2.out.l2, HR2.out.sz⟩ : w.heap.size ≤ u2.heap.size ∧ w.heap.size ≤ gr ∧ gr < gd ∧ gd < gm ∧ gm < u2.heap.size)
                    go_wp2_with (first | ((with_reducible refine gate_builtin (b := .append) (xs := #[.tmp 53, .tmp 56]) rfl ?_); at_builtin; refine Kd.R_append (Kd.int .i64) (w0 := w) w.heap.size rfl (.tmp 53) (.tmp 56) 25 3 (.int .i64 0) 8 rfl Try.underlying25 info3 rfl (by decide) (by omega) (.slice A d.need.length c) d.need (wrap64 t2) [.int .i64 (wrap64 t2)] (fun k => k ≠ gr ∧ k ≠ gd ∧ k ≠ gm) (fun _ => False) rfl rfl ?aP (fun _ hk => hk.elim) ?aF ?aO ?aB ?aS ?aL ?_; (case aP => exact rfl); (case aB => exact HR2.out.bel); (case aF => exact (fun k hk => ⟨by have := HSZ.out; omega, by have := HSZ.out; omega, by have := HSZ.out; omega⟩)); (case aO => exact HR2.out.own); (case aS => exact HSZ.out.1); (case aL => have := HI.out; have := HS.out; omega); intro v1 w8 ho hbe hg hat; obtain ⟨A1, c1, hv1⟩ := Kd.R_slice ho; rw [show (d.need ++ [wrap64 t2]).length = d.need.length + 1 by simp] at hv1; subst hv1; have BB1 := blk_grown HR2.out.bd hg (Kd.R_away HR2.out.own (fun _ hk => hk.2.1)); have hs1 := (blk_cell BB1 0).trans (rfl : _ = some (Value.slice A d.need.length c)); have hf1 := blk_frozen BB1 0; have HR3 := Aside0.mk (HR2.out.app ho hbe hg); clear ho hbe hg hat BB1) | (at_mapUpdate; obtain ⟨D, hown, hD1, hD2⟩ := HR3.out.mp.own; have hkey := Maps.keyOf_int_mk Try.underlying133 HT1.out.1; have hnm : n < maxLen := (by have := HI.out; have := HS.out; simp only [maxLen]; omega); refine wpList_mapUpdate_own _ rfl _ _ _ 141 rfl 133 4 (Maps.int_keyed Try.underlying133) Try.underlying141 _ gm n D rfl hown hnm _ _ (.int .u64 1) rfl rfl hkey (.lit (.bool true)) [] (plainElem_bool Try.underlying4 true) ?_; intro w9 hown1 hgrow1; have HR9 := Aside0.mk (HR3.out.note hD1 hD2 hown1 hgrow1); clear hown1 hgrow1 hown hD1 hD2 hkey hnm))
                    have HZ2 := Aside0.mk (st_true HZ.out HST.out)
                    clear HZ
                    have hw16 := w16 HAT.out HI.out.2.1 HS.out
                    have HW16 := Aside0.mk hw16
                    clear hw16
                    go_roundg k1
                    case measure => omega
                    case rel => exact ⟨i + 1, n + 1, _, _, _, rfl, rfl, ⟨by have := HW16.out; have := HAT.out; omega⟩, ⟨by have := HI.out; have := HT3.out (by trivial); have := HAT.out; have := HA8.out; exact ⟨by omega, by omega, by omega, by simp only [List.length_append, List.length_singleton]; omega⟩⟩, HZ2, HR9⟩
                  · have clb : decide ((d.need.length : Int) < 64) = false := decide_eq_false cl
                    have hst : rdStep d 1 t2 = (false, { d with need := d.need ++ [wrap64 t2] }) := by unfold rdStep; rw [if_pos rfl, cnb, clb]; rfl
                    have HST := Aside0.mk hst
                    clear hst cn cl
                    have HSZ := Aside0.mk (⟨HR2.out.bel.size, HR2.out.lo, HR2.out.l1, HR2.out.l2, HR2.out.sz⟩ : w.heap.size ≤ u2.heap.size ∧ w.heap.size ≤ gr ∧ gr < gd ∧ gd < gm ∧ gm < u2.heap.size)
                    go_wp2_with (first | ((with_reducible refine gate_builtin (b := .append) (xs := #[.tmp 53, .tmp 56]) rfl ?_); at_builtin; refine Kd.R_append (Kd.int .i64) (w0 := w) w.heap.size rfl (.tmp 53) (.tmp 56) 25 3 (.int .i64 0) 8 rfl Try.underlying25 info3 rfl (by decide) (by omega) (.slice A d.need.length c) d.need (wrap64 t2) [.int .i64 (wrap64 t2)] (fun k => k ≠ gr ∧ k ≠ gd ∧ k ≠ gm) (fun _ => False) rfl rfl ?aP (fun _ hk => hk.elim) ?aF ?aO ?aB ?aS ?aL ?_; (case aP => exact rfl); (case aB => exact HR2.out.bel); (case aF => exact (fun k hk => ⟨by have := HSZ.out; omega, by have := HSZ.out; omega, by have := HSZ.out; omega⟩)); (case aO => exact HR2.out.own); (case aS => exact HSZ.out.1); (case aL => have := HI.out; have := HS.out; omega); intro v1 w8 ho hbe hg hat; obtain ⟨A1, c1, hv1⟩ := Kd.R_slice ho; rw [show (d.need ++ [wrap64 t2]).length = d.need.length + 1 by simp] at hv1; subst hv1; have BB1 := blk_grown HR2.out.bd hg (Kd.R_away HR2.out.own (fun _ hk => hk.2.1)); have hs1 := (blk_cell BB1 0).trans (rfl : _ = some (Value.slice A d.need.length c)); have hf1 := blk_frozen BB1 0; have HR3 := Aside0.mk (HR2.out.app ho hbe hg); clear ho hbe hg hat BB1))
                    have HZ2 := Aside0.mk (st_false HZ.out HST.out)
                    clear HZ
                    go_wp2_with fail
                    go_meet
                    case rel => exact ⟨_, _, false, _, rfl, HZ2, HR3⟩
                · have cnb : decide (t2 ≤ 1099511627776) = false := decide_eq_false cn
                  have hst : rdStep d 1 t2 = (false, { d with need := d.need ++ [wrap64 t2] }) := by unfold rdStep; rw [if_pos rfl, cnb]; rfl
                  have HST := Aside0.mk hst
                  clear hst cn
                  have HSZ := Aside0.mk (⟨HR2.out.bel.size, HR2.out.lo, HR2.out.l1, HR2.out.l2, HR2.out.sz⟩ : w.heap.size ≤ u2.heap.size ∧ w.heap.size ≤ gr ∧ gr < gd ∧ gd < gm ∧ gm < u2.heap.size)
                  go_wp2_with (first | ((with_reducible refine gate_builtin (b := .append) (xs := #[.tmp 53, .tmp 56]) rfl ?_); at_builtin; refine Kd.R_append (Kd.int .i64) (w0 := w) w.heap.size rfl (.tmp 53) (.tmp 56) 25 3 (.int .i64 0) 8 rfl Try.underlying25 info3 rfl (by decide) (by omega) (.slice A d.need.length c) d.need (wrap64 t2) [.int .i64 (wrap64 t2)] (fun k => k ≠ gr ∧ k ≠ gd ∧ k ≠ gm) (fun _ => False) rfl rfl ?aP (fun _ hk => hk.elim) ?aF ?aO ?aB ?aS ?aL ?_; (case aP => exact rfl); (case aB => exact HR2.out.bel); (case aF => exact (fun k hk => ⟨by have := HSZ.out; omega, by have := HSZ.out; omega, by have := HSZ.out; omega⟩)); (case aO => exact HR2.out.own); (case aS => exact HSZ.out.1); (case aL => have := HI.out; have := HS.out; omega); intro v1 w8 ho hbe hg hat; obtain ⟨A1, c1, hv1⟩ := Kd.R_slice ho; rw [show (d.need ++ [wrap64 t2]).length = d.need.length + 1 by simp] at hv1; subst hv1; have BB1 := blk_grown HR2.out.bd hg (Kd.R_away HR2.out.own (fun _ hk => hk.2.1)); have hs1 := (blk_cell BB1 0).trans (rfl : _ = some (Value.slice A d.need.length c)); have hf1 := blk_frozen BB1 0; have HR3 := Aside0.mk (HR2.out.app ho hbe hg); clear ho hbe hg hat BB1))
                  have HZ2 := Aside0.mk (st_false HZ.out HST.out)
                  clear HZ
                  go_wp2_with fail
                  go_meet
                  case rel => exact ⟨_, _, false, _, rfl, HZ2, HR3⟩
              · by_cases c9 : t1 = 9
                · subst c9
                  have hlk := HR2.out.mp.lookup _ HT1.out.1
                  obtain ⟨sb, hsb⟩ : ∃ b, d.seen.contains 9 = b := ⟨_, rfl⟩
                  rw [hsb] at hlk
                  by_cases cn : t2 = 24
                  · subst cn
                    cases sb with
                    | true =>
                      have hst : rdStep d 9 24 = (false, d) := by unfold rdStep; rw [if_neg (by decide), if_pos (by decide), hsb]; rfl
                      have HST := Aside0.mk hst
                      clear hst
                      have HR3 := HR2
                      have HZ2 := Aside0.mk (st_false HZ.out HST.out)
                      clear HZ
                      go_wp2_with fail
                      go_meet
                      case rel => exact ⟨_, _, false, _, rfl, HZ2, HR3⟩
                    | false =>
                      have hst : rdStep d 9 24 = (true, d) := by unfold rdStep; rw [if_neg (by decide), if_pos (by decide), hsb]; rfl
                      have HST := Aside0.mk hst
                      clear hst
                      have HR3 := HR2
                      have HZ2 := Aside0.mk (st_true HZ.out HST.out)
                      clear HZ
                      go_wp2_with (at_mapUpdate; obtain ⟨D, hown, hD1, hD2⟩ := HR3.out.mp.own; have hkey := Maps.keyOf_int_mk Try.underlying133 HT1.out.1; have hnm : n < maxLen := (by have := HI.out; have := HS.out; simp only [maxLen]; omega); refine wpList_mapUpdate_own _ rfl _ _ _ 141 rfl 133 4 (Maps.int_keyed Try.underlying133) Try.underlying141 _ gm n D rfl hown hnm _ _ (.int .u64 9) rfl rfl hkey (.lit (.bool true)) [] (plainElem_bool Try.underlying4 true) ?_; intro w9 hown1 hgrow1; have HR9 := Aside0.mk (HR3.out.note hD1 hD2 hown1 hgrow1); clear hown1 hgrow1 hown hD1 hD2 hkey hnm)
                      have hw16 := w16 HAT.out HI.out.2.1 HS.out
                      have HW16 := Aside0.mk hw16
                      clear hw16
                      go_roundg k1
                      case measure => omega
                      case rel => exact ⟨i + 1, n + 1, _, _, _, rfl, rfl, ⟨by have := HW16.out; have := HAT.out; omega⟩, ⟨by have := HI.out; have := HT3.out (by trivial); have := HAT.out; have := HA8.out; exact ⟨by omega, by omega, by omega, by simp only; omega⟩⟩, HZ2, HR9⟩
                  · have cnb : (t2 == 24) = false := beq_eq_false_iff_ne.mpr cn
                    have hst : rdStep d 9 t2 = (false, d) := by unfold rdStep; rw [if_neg (by decide), if_pos (by decide), cnb]; rfl
                    have HST := Aside0.mk hst
                    clear hst cn
                    have HR3 := HR2
                    have HZ2 := Aside0.mk (st_false HZ.out HST.out)
                    clear HZ
                    go_wp2_with fail
                    go_meet
                    case rel => exact ⟨_, _, false, _, rfl, HZ2, HR3⟩
                · by_cases c11 : t1 = 11
                  · subst c11
                    have hlk := HR2.out.mp.lookup _ HT1.out.1
                    obtain ⟨sb, hsb⟩ : ∃ b, d.seen.contains 11 = b := ⟨_, rfl⟩
                    rw [hsb] at hlk
                    by_cases cn : t2 = 24
                    · subst cn
                      cases sb with
                      | true =>
                        have hst : rdStep d 11 24 = (false, d) := by unfold rdStep; rw [if_neg (by decide), if_pos (by decide), hsb]; rfl
                        have HST := Aside0.mk hst
                        clear hst
                        have HR3 := HR2
                        have HZ2 := Aside0.mk (st_false HZ.out HST.out)
                        clear HZ
                        go_wp2_with fail
                        go_meet
                        case rel => exact ⟨_, _, false, _, rfl, HZ2, HR3⟩
                      | false =>
                        have hst : rdStep d 11 24 = (true, d) := by unfold rdStep; rw [if_neg (by decide), if_pos (by decide), hsb]; rfl
                        have HST := Aside0.mk hst
                        clear hst
                        have HR3 := HR2
                        have HZ2 := Aside0.mk (st_true HZ.out HST.out)
                        clear HZ
                        go_wp2_with (at_mapUpdate; obtain ⟨D, hown, hD1, hD2⟩ := HR3.out.mp.own; have hkey := Maps.keyOf_int_mk Try.underlying133 HT1.out.1; have hnm : n < maxLen := (by have := HI.out; have := HS.out; simp only [maxLen]; omega); refine wpList_mapUpdate_own _ rfl _ _ _ 141 rfl 133 4 (Maps.int_keyed Try.underlying133) Try.underlying141 _ gm n D rfl hown hnm _ _ (.int .u64 11) rfl rfl hkey (.lit (.bool true)) [] (plainElem_bool Try.underlying4 true) ?_; intro w9 hown1 hgrow1; have HR9 := Aside0.mk (HR3.out.note hD1 hD2 hown1 hgrow1); clear hown1 hgrow1 hown hD1 hD2 hkey hnm)
                        have hw16 := w16 HAT.out HI.out.2.1 HS.out
                        have HW16 := Aside0.mk hw16
                        clear hw16
                        go_roundg k1
                        case measure => omega
                        case rel => exact ⟨i + 1, n + 1, _, _, _, rfl, rfl, ⟨by have := HW16.out; have := HAT.out; omega⟩, ⟨by have := HI.out; have := HT3.out (by trivial); have := HAT.out; have := HA8.out; exact ⟨by omega, by omega, by omega, by simp only; omega⟩⟩, HZ2, HR9⟩
                    · have cnb : (t2 == 24) = false := beq_eq_false_iff_ne.mpr cn
                      have hst : rdStep d 11 t2 = (false, d) := by unfold rdStep; rw [if_neg (by decide), if_pos (by decide), cnb]; rfl
                      have HST := Aside0.mk hst
                      clear hst cn
                      have HR3 := HR2
                      have HZ2 := Aside0.mk (st_false HZ.out HST.out)
                      clear HZ
                      go_wp2_with fail
                      go_meet
                      case rel => exact ⟨_, _, false, _, rfl, HZ2, HR3⟩
                  · have C1 := Aside0.mk c1
                    have C9 := Aside0.mk c9
                    have C11 := Aside0.mk c11
                    clear c1 c9 c11
                    cases hix : fieldIx t1 with
                    | none =>
                      have hfp : fieldP gd t1 = none := by unfold fieldP; rw [hix]; rfl
                      rw [hfp]
                      have HST := Aside0.mk (show rdStep d t1 t2 = (true, d) by unfold rdStep; rw [if_neg C1.out, if_neg (by intro h; rcases h with h | h; exact C9.out h; exact C11.out h), hix])
                      have hu9 : (t1 == 9) = false := beq_eq_false_iff_ne.mpr C9.out
                      have hu11 : (t1 == 11) = false := beq_eq_false_iff_ne.mpr C11.out
                      have hu1 : (t1 == 1) = false := beq_eq_false_iff_ne.mpr C1.out
                      clear hfp hix
                      have HR3 := HR2
                      have HZ2 := Aside0.mk (st_true HZ.out HST.out)
                      clear HZ
                      go_wp2_with (at_mapUpdate; obtain ⟨D, hown, hD1, hD2⟩ := HR3.out.mp.own; have hkey := Maps.keyOf_int_mk Try.underlying133 HT1.out.1; have hnm : n < maxLen := (by have := HI.out; have := HS.out; simp only [maxLen]; omega); refine wpList_mapUpdate_own _ rfl _ _ _ 141 rfl 133 4 (Maps.int_keyed Try.underlying133) Try.underlying141 _ gm n D rfl hown hnm _ _ (.int .u64 t1) rfl rfl hkey (.lit (.bool true)) [] (plainElem_bool Try.underlying4 true) ?_; intro w9 hown1 hgrow1; have HR9 := Aside0.mk (HR3.out.note hD1 hD2 hown1 hgrow1); clear hown1 hgrow1 hown hD1 hD2 hkey hnm)
                      have hw16 := w16 HAT.out HI.out.2.1 HS.out
                      have HW16 := Aside0.mk hw16
                      clear hw16
                      go_roundg k1
                      case measure => omega
                      case rel => exact ⟨i + 1, n + 1, _, _, _, rfl, rfl, ⟨by have := HW16.out; have := HAT.out; omega⟩, ⟨by have := HI.out; have := HT3.out (by trivial); have := HAT.out; have := HA8.out; exact ⟨by omega, by omega, by omega, by simp only; omega⟩⟩, HZ2, HR9⟩
                    | some ix =>
                      have hlk := HR2.out.mp.lookup _ HT1.out.1
                      obtain ⟨sb, hsb⟩ : ∃ b, d.seen.contains t1 = b := ⟨_, rfl⟩
                      rw [hsb] at hlk
                      obtain ⟨old, hold⟩ := field_cell HR2.out.ln hix
                      have hci := (blk_cell HR2.out.bd ix).trans (hold v)
                      have hfi := blk_frozen HR2.out.bd ix
                      have hfp : fieldP gd t1 = some ⟨gd, ix, none⟩ := by unfold fieldP; rw [hix]; rfl
                      rw [hfp]
                      clear hold hfp
                      by_cases cn : t2 ≤ 1099511627776
                      · have cnb : decide (t2 ≤ 1099511627776) = true := decide_eq_true cn
                        cases sb with
                        | true =>
                          have hst : rdStep d t1 t2 = (false, { d with fs := d.fs.set (ix - 1) (wrap64 t2) }) := by unfold rdStep; rw [if_neg C1.out, if_neg (by intro h; rcases h with h | h; exact C9.out h; exact C11.out h), hix]; simp only; rw [hsb, cnb]; rfl
                          have HST := Aside0.mk hst
                          have HR3 := Aside0.mk (HR2.out.put hix (wrap64 t2))
                          have hu9 : (t1 == 9) = false := beq_eq_false_iff_ne.mpr C9.out
                          have hu11 : (t1 == 11) = false := beq_eq_false_iff_ne.mpr C11.out
                          have hu1 : (t1 == 1) = false := beq_eq_false_iff_ne.mpr C1.out
                          clear hst cn hix
                          have HZ2 := Aside0.mk (st_false HZ.out HST.out)
                          clear HZ
                          go_wp2_with fail
                          go_meet
                          case rel => exact ⟨_, _, false, _, rfl, HZ2, HR3⟩
                        | false =>
                          have hst : rdStep d t1 t2 = (true, { d with fs := d.fs.set (ix - 1) (wrap64 t2) }) := by unfold rdStep; rw [if_neg C1.out, if_neg (by intro h; rcases h with h | h; exact C9.out h; exact C11.out h), hix]; simp only; rw [hsb, cnb]; rfl
                          have HST := Aside0.mk hst
                          have HR3 := Aside0.mk (HR2.out.put hix (wrap64 t2))
                          have hu9 : (t1 == 9) = false := beq_eq_false_iff_ne.mpr C9.out
                          have hu11 : (t1 == 11) = false := beq_eq_false_iff_ne.mpr C11.out
                          have hu1 : (t1 == 1) = false := beq_eq_false_iff_ne.mpr C1.out
                          clear hst cn hix
                          have HZ2 := Aside0.mk (st_true HZ.out HST.out)
                          clear HZ
                          go_wp2_with (at_mapUpdate; obtain ⟨D, hown, hD1, hD2⟩ := HR3.out.mp.own; have hkey := Maps.keyOf_int_mk Try.underlying133 HT1.out.1; have hnm : n < maxLen := (by have := HI.out; have := HS.out; simp only [maxLen]; omega); refine wpList_mapUpdate_own _ rfl _ _ _ 141 rfl 133 4 (Maps.int_keyed Try.underlying133) Try.underlying141 _ gm n D rfl hown hnm _ _ (.int .u64 t1) rfl rfl hkey (.lit (.bool true)) [] (plainElem_bool Try.underlying4 true) ?_; intro w9 hown1 hgrow1; have HR9 := Aside0.mk (HR3.out.note hD1 hD2 hown1 hgrow1); clear hown1 hgrow1 hown hD1 hD2 hkey hnm)
                          have hw16 := w16 HAT.out HI.out.2.1 HS.out
                          have HW16 := Aside0.mk hw16
                          clear hw16
                          go_roundg k1
                          case measure => omega
                          case rel => exact ⟨i + 1, n + 1, _, _, _, rfl, rfl, ⟨by have := HW16.out; have := HAT.out; omega⟩, ⟨by have := HI.out; have := HT3.out (by trivial); have := HAT.out; have := HA8.out; exact ⟨by omega, by omega, by omega, by simp only; omega⟩⟩, HZ2, HR9⟩
                      · have cnb : decide (t2 ≤ 1099511627776) = false := decide_eq_false cn
                        have hst : rdStep d t1 t2 = (false, { d with fs := d.fs.set (ix - 1) (wrap64 t2) }) := by unfold rdStep; rw [if_neg C1.out, if_neg (by intro h; rcases h with h | h; exact C9.out h; exact C11.out h), hix]; simp only; rw [cnb]; rfl
                        have HST := Aside0.mk hst
                        have HR3 := Aside0.mk (HR2.out.put hix (wrap64 t2))
                        have hu9 : (t1 == 9) = false := beq_eq_false_iff_ne.mpr C9.out
                        have hu11 : (t1 == 11) = false := beq_eq_false_iff_ne.mpr C11.out
                        have hu1 : (t1 == 1) = false := beq_eq_false_iff_ne.mpr C1.out
                        clear hst cn hix
                        have HZ2 := Aside0.mk (st_false HZ.out HST.out)
                        clear HZ
                        go_wp2_with fail
                        go_meet
                        case rel => exact ⟨_, _, false, _, rfl, HZ2, HR3⟩
  case rest =>
    clear HR
    obtain ⟨n, v, r, d, rfl, HA, HR⟩ := hcut
    obtain ⟨A, c, rfl⟩ := Kd.R_slice HR.out.own
    obtain ⟨d0, d1, d2⟩ := d
    obtain ⟨f1, f2, f3, f4, f5, f6, f7, f8, rfl⟩ := eight HR.out.ln
    have HBD := Aside0.mk (show _ = some (Obj.cells #[.slice A d0.length c, .int .i64 f1, .int .i64 f2, .int .i64 f3, .int .i64 f4, .int .i64 f5, .int .i64 f6, .int .i64 f7, .int .i64 f8] 54 (0, 0)) from HR.out.bd)
    have HB := Aside0.mk HR.out.bel
    have HBR := Aside0.mk HR.out.br
    have HOW := Aside0.mk HR.out.own
    have HGR := Aside0.mk (⟨HR.out.lo, HR.out.l1⟩ : _ ≤ gr ∧ gr < gd)
    clear HR
    have hd0 := (blk_cell HBD.out 0).trans (rfl : _ = some (Value.slice A d0.length c))
    have hd1 := (blk_cell HBD.out 1).trans (rfl : _ = some (Value.int .i64 f1))
    have hd2 := (blk_cell HBD.out 2).trans (rfl : _ = some (Value.int .i64 f2))
    have hd3 := (blk_cell HBD.out 3).trans (rfl : _ = some (Value.int .i64 f3))
    have hd4 := (blk_cell HBD.out 4).trans (rfl : _ = some (Value.int .i64 f4))
    have hd5 := (blk_cell HBD.out 5).trans (rfl : _ = some (Value.int .i64 f5))
    have hd6 := (blk_cell HBD.out 6).trans (rfl : _ = some (Value.int .i64 f6))
    have hd7 := (blk_cell HBD.out 7).trans (rfl : _ = some (Value.int .i64 f7))
    have hd8 := (blk_cell HBD.out 8).trans (rfl : _ = some (Value.int .i64 f8))
    have hr0 := (blk_cell HBR.out 0).trans rfl
    have hr1 := (blk_cell HBR.out 1).trans rfl
    have hr2 := (blk_cell HBR.out 2).trans rfl
    have hr3 := (blk_cell HBR.out 3).trans rfl
    have hr4 := (blk_cell HBR.out 4).trans rfl
    have hr5 := (blk_cell HBR.out 5).trans rfl
    have hr6 := (blk_cell HBR.out 6).trans rfl
    have hr7 := (blk_cell HBR.out 7).trans rfl
    have hr8 := (blk_cell HBR.out 8).trans rfl
    have hz := blk_frozen HBR.out
    cases r with
    | false =>
      have HO := Aside0.mk (show rdOut s = ([], [0, 0, 0, 0, 0, 0, 0, 0], 17) by unfold rdOut; rw [HA.out]; rfl)
      go_wp2
      obtain ⟨W9, e9, h9, k9, b9⟩ := set9 HBR.out HB.out HGR.out.1 (.slice none 0 0) (.int .i64 0) (.int .i64 0) (.int .i64 0) (.int .i64 0) (.int .i64 0) (.int .i64 0) (.int .i64 0) (.int .i64 0)
      rw [e9]
      (try simp only [Exit.inBlock, Exit.then, Exit.noGoto_ret])
      refine bodyPost_ret (results_cell_row2 rfl _ _ gr 54 #[.slice none 0 0, .int .i64 0, .int .i64 0, .int .i64 0, .int .i64 0, .int .i64 0, .int .i64 0, .int .i64 0, .int .i64 0] (0, 0) _ rfl h9 Try.underlying54 rfl (by kernel_rfl)) rfl ?_
      rw [HO.out]
      exact ⟨_, rfl, Kd.R_nil _ _ _ _ _, rfl, b9⟩
    | true =>
      obtain ⟨q, hq⟩ : ∃ q, f6.tmod 24 = q := ⟨_, rfl⟩
      have HQ := Aside0.mk hq
      by_cases cq : q = 0
      · subst cq
        have HO := Aside0.mk (show rdOut s = (d0, [f1, f2, f3, f4, f5, f6, f7, f8], 0) by unfold rdOut; rw [HA.out]; exact if_pos ⟨rfl, HQ.out⟩)
        go_wp2
        obtain ⟨W9, e9, h9, k9, b9⟩ := set9 HBR.out HB.out HGR.out.1 (.slice A d0.length c) (.int .i64 f1) (.int .i64 f2) (.int .i64 f3) (.int .i64 f4) (.int .i64 f5) (.int .i64 f6) (.int .i64 f7) (.int .i64 f8)
        rw [e9]
        (try simp only [Exit.inBlock, Exit.then, Exit.noGoto_ret])
        refine bodyPost_ret (results_cell_row2 rfl _ _ gr 54 #[.slice A d0.length c, .int .i64 f1, .int .i64 f2, .int .i64 f3, .int .i64 f4, .int .i64 f5, .int .i64 f6, .int .i64 f7, .int .i64 f8] (0, 0) _ rfl h9 Try.underlying54 rfl (by kernel_rfl)) rfl ?_
        rw [HO.out]
        exact ⟨_, rfl, Kd.R_mono (Kd.R_step HOW.out (fun k hk _ => k9 k hk.1)) (fun _ _ => trivial), rfl, b9⟩
      · have cqb : (q == 0) = false := beq_eq_false_iff_ne.mpr cq
        have HO := Aside0.mk (show rdOut s = ([], [0, 0, 0, 0, 0, 0, 0, 0], 17) by unfold rdOut; rw [HA.out]; exact if_neg (fun h => cq (HQ.out.symm.trans h.2)))
        clear cq
        go_wp2
        obtain ⟨W9, e9, h9, k9, b9⟩ := set9 HBR.out HB.out HGR.out.1 (.slice none 0 0) (.int .i64 0) (.int .i64 0) (.int .i64 0) (.int .i64 0) (.int .i64 0) (.int .i64 0) (.int .i64 0) (.int .i64 0)
        rw [e9]
        (try simp only [Exit.inBlock, Exit.then, Exit.noGoto_ret])
        refine bodyPost_ret (results_cell_row2 rfl _ _ gr 54 #[.slice none 0 0, .int .i64 0, .int .i64 0, .int .i64 0, .int .i64 0, .int .i64 0, .int .i64 0, .int .i64 0, .int .i64 0] (0, 0) _ rfl h9 Try.underlying54 rfl (by kernel_rfl)) rfl ?_
        rw [HO.out]
        exact ⟨_, rfl, Kd.R_nil _ _ _ _ _, rfl, b9⟩
theorem list8 {l : List Int} (h : l.length = 8) : l = [l.getD 0 0, l.getD 1 0, l.getD 2 0, l.getD 3 0, l.getD 4 0, l.getD 5 0, l.getD 6 0, l.getD 7 0] := by
  obtain ⟨a, b, c, d, e, f, g, i, rfl⟩ := eight h
  rfl
theorem dynamic_Read.calls (a0 : ByteArray) (r1 : List Int) (r2 r3 r4 r5 r6 r7 r8 r9 r10 : Int) (w : World) (h : dynamic_Read.f a0 = some (r1, r2, r3, r4, r5, r6, r7, r8, r9, r10)) :
    Calls Try.prog 48 #[.string a0] w fun e w' => ∃ v0_, e = .returned (.tuple #[.agg #[v0_, .int .i64 r2, .int .i64 r3, .int .i64 r4, .int .i64 r5, .int .i64 r6, .int .i64 r7, .int .i64 r8, .int .i64 r9], .int .i64 r10]) ∧ Kd.R (Kd.int .i64) 3 w' w.heap.size (fun _ => True) v0_ r1 ∧ Below w.heap.size w w' := by
  unfold dynamic_Read.f at h
  split at h
  · rename_i hc
    simp only [Option.some.injEq, Prod.mk.injEq] at h
    obtain ⟨rfl, rfl, rfl, rfl, rfl, rfl, rfl, rfl, rfl, rfl⟩ := h
    refine (read_main a0 w hc).mono ?_
    rintro e w' ⟨v0, rfl, h1, h2, h3⟩
    refine ⟨v0, ?_, h1, h3⟩
    rw [list8 h2]
    rfl
  · cases h
end Go.Proofs.Ytafmeagfockdfaa.Fl
