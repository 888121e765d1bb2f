/-
  The document's functions on rows of regions: what they come to, page by page.
-/
import Derived.Test.YtafmeagfockdfaaRgFold
import Derived.Test.YtafmeagfockdfaaRg11
import Derived.Test.YtafmeagfockdfaaEv
namespace Go.Proofs.Ytafmeagfockdfaa.Rg
open Go.Proofs.Ytafmeagfockdfaa.Evs Go.RowKit Go.Proofs.YtafmeagfockdfaaW.PrintWords
set_option linter.unusedVariables false
set_option linter.unusedSimpArgs false

theorem w64 {n : Int} (h : -1000000000000000 ≤ n ∧ n ≤ 1000000000000000) : wrap64 n = n := by unfold wrap64; omega
theorem refone_eq (a b : S41) : flyleafref15_one.f a.f0 a.f1 a.f2 a.f3 a.f4 a.f5 b.f0 b.f1 b.f2 b.f3 b.f4 b.f5 = some (oneT a b) := by
  unfold flyleafref15_one.f oneT
  by_cases h0 : a.f1 = b.f0
  · by_cases h1 : a.f2 = b.f2
    · by_cases h2 : a.f3 = b.f3
      · by_cases h3 : a.f4 = b.f4
        · by_cases h4 : a.f3 = 1
          · rw [if_pos h0, if_pos h1, if_pos h2, if_pos h3, if_pos h4, if_pos h4, decide_eq_true h0, decide_eq_true h1, decide_eq_true h2, decide_eq_true h3]
            rfl
          · rw [if_pos h0, if_pos h1, if_pos h2, if_pos h3, if_neg h4, if_neg h4, decide_eq_true h0, decide_eq_true h1, decide_eq_true h2, decide_eq_true h3]
            rfl
        · rw [if_pos h0, if_pos h1, if_pos h2, if_neg h3, decide_eq_false h3]; simp
      · rw [if_pos h0, if_pos h1, if_neg h2, decide_eq_false h2]; simp
    · rw [if_pos h0, if_neg h1, decide_eq_false h1]; simp
  · rw [if_neg h0, decide_eq_false h0]; simp
theorem refmay_eq (k : Nat) (r : S41) : flyleafref15_May.f (k + 1) r.f0 r.f1 r.f2 r.f3 r.f4 r.f5 = some (mayT r) := by
  unfold flyleafref15_May.f mayT
  simp only [flyleafref15_May.j0, if_true]
  by_cases h0 : r.f0 < 0
  · rw [if_pos h0, if_pos (.inl h0)]
  rw [if_neg h0]
  by_cases h1 : r.f1 ≤ r.f0
  · rw [if_pos h1, if_pos (.inr (.inl h1))]
  rw [if_neg h1]
  by_cases h2 : r.f1 > 4096
  · rw [if_pos h2, if_pos (.inr (.inr (.inl h2)))]
  rw [if_neg h2]
  by_cases h3 : r.f2 < 0
  · rw [if_pos h3, if_pos (.inr (.inr (.inr (.inl h3))))]
  rw [if_neg h3]
  by_cases h4 : r.f2 > 7
  · rw [if_pos h4, if_pos (.inr (.inr (.inr (.inr h4))))]
  rw [if_neg h4, if_neg (show ¬ (r.f0 < 0 ∨ r.f1 ≤ r.f0 ∨ r.f1 > 4096 ∨ r.f2 < 0 ∨ r.f2 > 7) by omega)]
  by_cases h5 : r.f3 < 1
  · rw [if_pos h5, if_neg (show ¬ r.f3 = 1 by omega), decide_eq_false (p := 1 < r.f3) (by omega)]; rfl
  rw [if_neg h5]
  by_cases h6 : r.f3 > 4
  · rw [decide_eq_true h6, if_pos rfl, if_neg (show ¬ r.f3 = 1 by omega), decide_eq_false (p := r.f3 ≤ 4) (by omega)]; simp
  rw [decide_eq_false h6, if_neg (by decide)]
  by_cases h7 : r.f3 = 1
  · rw [if_pos h7, if_pos h7]
    by_cases h8 : r.f4 ≥ 0
    · rw [if_pos h8, decide_eq_true (p := 0 ≤ r.f4) h8]
      by_cases h9 : r.f5 ≥ 0
      · rw [if_pos h9, decide_eq_true (p := 0 ≤ r.f5) h9]; rfl
      · rw [if_neg h9, decide_eq_false (p := 0 ≤ r.f5) h9]; rfl
    · rw [if_neg h8, decide_eq_false (p := 0 ≤ r.f4) h8]; rfl
  · rw [if_neg h7, if_neg h7, decide_eq_true (p := 1 < r.f3) (by omega), decide_eq_true (p := r.f3 ≤ 4) (by omega)]
    by_cases h8 : r.f4 = -1
    · rw [if_pos h8, decide_eq_true h8]
      by_cases h9 : r.f5 = 0 <;> simp [h9]
    · rw [if_neg h8, decide_eq_false h8]; rfl
/-- What each page has, as the document's array tells it. -/
structure Rep (A : List S87) (m : Int → Option S41) : Prop where
  len : A.length = 4096
  at_ : ∀ p : Int, 0 ≤ p → p < 4096 → match m p with | some x => rd_T87 A p = ⟨x, true⟩ | none => (rd_T87 A p).f1 = false
theorem Rep.congr {A : List S87} {m m' : Int → Option S41} (h : Rep A m) (e : ∀ p, 0 ≤ p → p < 4096 → m p = m' p) : Rep A m' := ⟨h.len, fun p h0 h1 => by have := h.at_ p h0 h1; rw [e p h0 h1] at this; exact this⟩
theorem rd_set87 (A : List S87) (p q : Int) (v : S87) (h0 : 0 ≤ p) (h1 : p < A.length) (hq : 0 ≤ q) : rd_T87 (A.set p.toNat v) q = if q = p then v else rd_T87 A q := by
  unfold rd_T87
  rw [List.getD_eq_getElem?_getD, List.getD_eq_getElem?_getD, List.getElem?_set]
  by_cases h : q = p
  · subst h
    rw [if_pos rfl, if_pos rfl, if_pos (by omega)]; rfl
  · rw [if_neg (by omega), if_neg h]
theorem Rep.set {A : List S87} {m : Int → Option S41} (h : Rep A m) {p : Int} (h0 : 0 ≤ p) (h1 : p < 4096) (v : S87) (o : Option S41) (hv : match o with | some x => v = ⟨x, true⟩ | none => v.f1 = false) :
    Rep (A.set p.toNat v) (fun q => if q = p then o else m q) := by
  refine ⟨by rw [List.length_set]; exact h.len, fun q q0 q1 => ?_⟩
  rw [rd_set87 A p q v h0 (by rw [h.len]; exact h1) q0]
  by_cases e : q = p
  · rw [if_pos e, if_pos e]; exact hv
  · rw [if_neg e, if_neg e]; exact h.at_ q q0 q1
theorem Rep.is {A : List S87} {m : Int → Option S41} (h : Rep A m) {p : Int} (h0 : 0 ≤ p) (h1 : p < 4096) : ((rd_T87 A p).f1 = true ↔ m p ≠ none) ∧ ∀ x, m p = some x → (rd_T87 A p).f0 = x := by
  have := h.at_ p h0 h1
  cases e : m p with
  | none => rw [e] at this; simp [this]
  | some x => rw [e] at this; simp [this]
theorem rep0 : Rep (List.replicate 4096 z87) (fun _ => none) := by
  refine ⟨List.length_replicate, fun p h0 h1 => ?_⟩
  show (rd_T87 _ p).f1 = false
  unfold rd_T87
  rw [List.getD_eq_getElem?_getD, List.getElem?_replicate, if_pos (by omega)]
  rfl
theorem rd41 (l : List S41) (i : Nat) (h : i < l.length) : rd_T41 l (i : Int) = l[i] := by simp [rd_T41, h]
theorem spread_l1 (l : List S41) (i : Nat) (hi : i < l.length) (m : MayP l[i]) (hlen : l.length ≤ 4096) : ∀ (d : Nat) (p : Int) (A : List S87) (mp : Int → Option S41), l[i].f0 ≤ p → p + d = l[i].f1 → Rep A mp →
    ∃ A', Rep A' (fun q => if p ≤ q ∧ q < l[i].f1 then some (pg l[i] q) else mp q) ∧ ∀ r, Ev (fun k => flyleafref15_Spread.l0 k l A' ((i + 1 : Nat) : Int)) r → Ev (fun k => flyleafref15_Spread.l1 k l A (i : Int) p) r := by
  have m0 := m.lo; have m1 := m.lt; have m2 := m.hi
  intro d
  induction d with
  | zero =>
    intro p A mp h0 hd hA
    refine ⟨A, hA.congr (fun q _ _ => by rw [if_neg (by omega)]), fun r hr => ?_⟩
    refine Ev.succ ?_
    simp only [flyleafref15_Spread.l1]
    rw [rd41 l i hi]
    refine Ev.pos (by omega) (Ev.pos (by omega) (Ev.neg (by omega) ?_))
    rw [w64 (by omega)]
    exact hr
  | succ d ih =>
    intro p A mp h0 hd hA
    obtain ⟨A', hA', hr'⟩ := ih (p + 1) (A.set p.toNat ⟨pg l[i] p, true⟩) _ (by omega) (by omega) (hA.set (by omega) (by omega) ⟨pg l[i] p, true⟩ (some (pg l[i] p)) rfl)
    refine ⟨A', hA'.congr (fun q q0 q1 => ?_), fun r hr => ?_⟩
    · by_cases hq : p + 1 ≤ q ∧ q < l[i].f1
      · rw [if_pos hq, if_pos (by omega)]
      · rw [if_neg hq]
        by_cases hp : q = p
        · subst hp; rw [if_pos rfl, if_pos (by omega)]
        · rw [if_neg hp, if_neg (by omega)]
    · have hr := hr' r hr
      refine Ev.succ ?_
      simp only [flyleafref15_Spread.l1]
      rw [rd41 l i hi, hA.len]
      refine Ev.pos (by omega) (Ev.pos (by omega) (Ev.pos (by omega) ?_))
      have e1 : wrap64 (p + 1) = p + 1 := w64 (by omega)
      rw [e1]
      unfold pg at hr
      by_cases h3 : l[i].f3 = 1
      · refine Ev.pos h3 (Ev.pos (by omega) (Ev.pos (by omega) ?_))
        have e2 : wrap64 (wrap64 (l[i].f5 + p) - l[i].f0) = l[i].f5 + p - l[i].f0 := by
          rcases m.kd with k | k
          · rw [w64 (n := l[i].f5 + p) (by omega), w64 (by omega)]
          · omega
        rw [e2]
        simp only [if_pos h3] at hr
        exact hr
      · refine Ev.neg h3 (Ev.pos (by omega) (Ev.pos (by omega) ?_))
        simp only [if_neg h3] at hr
        exact hr
theorem Valid.take {l : List S41} (h : Valid l) (n : Nat) : Valid (l.take n) := ⟨fun r hr => h.may r (List.mem_of_mem_take hr), h.ord.sublist (List.take_sublist n l)⟩
theorem spread_l0 (l : List S41) (h : Valid l) : ∀ (d i : Nat) (A : List S87), i + d = l.length → Rep A (mapOf (l.take i)) →
    ∃ A', Rep A' (mapOf l) ∧ Ev (fun k => flyleafref15_Spread.l0 k l A (i : Int)) A' := by
  have hlen := h.len
  intro d
  induction d with
  | zero =>
    intro i A hi hA
    rw [List.take_of_length_le (by omega)] at hA
    refine ⟨A, hA, Ev.succ ?_⟩
    simp only [flyleafref15_Spread.l0]
    exact Ev.neg (by omega) (Ev.now _)
  | succ d ih =>
    intro i A hi hA
    have hil : i < l.length := by omega
    have m := h.may l[i] (List.getElem_mem hil)
    have hs : l.take (i + 1) = l.take i ++ [l[i]] := by rw [List.take_succ_eq_append_getElem hil]
    have hv := h.take (i + 1)
    rw [hs] at hv
    obtain ⟨v1, _, v3⟩ := hv.init
    obtain ⟨A1, hA1, hr1⟩ := spread_l1 l i hil m hlen (l[i].f1 - l[i].f0).toNat l[i].f0 A _ (Int.le_refl _) (by have := m.lt; omega) hA
    obtain ⟨A2, hA2, hr2⟩ := ih (i + 1) A1 (by omega) (hA1.congr (fun q q0 q1 => by
      rw [hs, mapOf_append, mapOf_one]
      by_cases hq : l[i].f0 ≤ q ∧ q < l[i].f1
      · rw [if_pos hq, if_pos hq, mapOf_none (fun x hx => by have := (v3 x hx).1; omega)]; rfl
      · rw [if_neg hq, if_neg hq]; simp))
    refine ⟨A2, hA2, Ev.succ ?_⟩
    simp only [flyleafref15_Spread.l0]
    rw [rd41 l i hil]
    exact Ev.pos (by omega) (Ev.pos (by omega) (hr1 A2 hr2))
theorem spread_ev {l : List S41} (h : Valid l) : ∃ A, Rep A (mapOf l) ∧ Ev (fun k => flyleafref15_Spread.f k l) A := by
  obtain ⟨A, hA, hr⟩ := spread_l0 l h l.length 0 _ (by omega) (rep0.congr (fun q _ _ => rfl))
  refine ⟨A, hA, ?_⟩
  unfold flyleafref15_Spread.f
  exact Ev.pos (by decide) hr
/-- What pages may have. -/
def PageOk (m : Int → Option S41) : Prop := ∀ p x, m p = some x → 0 ≤ p ∧ p < 4096 ∧ MayP x ∧ x.f0 = p ∧ x.f1 = p + 1
theorem pg_self {x : S41} {p : Int} (h0 : x.f0 = p) (h1 : x.f1 = p + 1) : pg x p = x := by
  obtain ⟨a, b, c, d, e, f⟩ := x
  simp only at h0 h1
  subst h0 h1
  unfold pg
  simp only [S41.mk.injEq, true_and]
  split <;> omega
theorem row_l0 {A : List S87} {m : Int → Option S41} (hA : Rep A m) (hm : PageOk m) : ∀ (d p : Nat) (out : List S41), p + d = 4096 → Valid out → out.length ≤ p → (∀ x ∈ out, x.f1 ≤ p) → (∀ q, mapOf out q = if q < p then m q else none) →
    ∃ l, Valid l ∧ (∀ q, mapOf l q = m q) ∧ Ev (fun k => flyleafref15_Row.l0 k A out (p : Int)) l := by
  intro d
  induction d with
  | zero =>
    intro p out hp hv hl hb hq
    refine ⟨out, hv, fun q => ?_, Ev.succ ?_⟩
    · rw [hq]
      cases e : m q with
      | none => split <;> rfl
      | some x => rw [if_pos (by have := hm q x e; omega)]
    · simp only [flyleafref15_Row.l0]
      rw [hA.len]
      exact Ev.neg (by omega) (Ev.now _)
  | succ d ih =>
    intro p out hp hv hl hb hq
    have hi := hA.is (p := (p : Int)) (by omega) (by omega)
    have e1 : wrap64 ((p : Int) + 1) = ((p + 1 : Nat) : Int) := by rw [w64 (by omega)]; omega
    cases e : m p with
    | none =>
      have hf : ¬ (rd_T87 A (p : Int)).f1 = true := fun h => (hi.1.1 h) e
      obtain ⟨l, l1, l2, l3⟩ := ih (p + 1) out (by omega) hv (by omega) (fun x hx => by have := hb x hx; omega) (fun q => by
        rw [hq]
        by_cases hqp : q < p
        · rw [if_pos hqp, if_pos (by omega)]
        · rw [if_neg hqp]
          by_cases hqe : q = p
          · subst hqe; rw [e]; split <;> rfl
          · rw [if_neg (by omega)])
      refine ⟨l, l1, l2, Ev.succ ?_⟩
      simp only [flyleafref15_Row.l0]
      rw [hA.len, e1]
      exact Ev.pos (by omega) (Ev.pos (by omega) (Ev.neg hf l3))
    | some x =>
      have hf : (rd_T87 A (p : Int)).f1 = true := hi.1.2 (by rw [e]; simp)
      have hx := hi.2 x e
      obtain ⟨x0, x1, mx_, ex0, ex1⟩ := hm p x e
      have P := putT_ok (r := x) hv (fun _ => mx_) (fun _ y hy => by have := hb y hy; omega)
      obtain ⟨l, l1, l2, l3⟩ := ih (p + 1) (putT out x) (by omega) P.valid (by have := putT_length out x; omega) (P.hi _ (fun y hy => by have := hb y hy; omega) (fun _ => by omega)) (fun q => by
        rw [P.map, hq]
        by_cases hqp : q < p
        · rw [if_neg (by omega), if_pos hqp, if_pos (by omega)]
        · by_cases hqe : q = p
          · subst hqe; rw [if_pos (by omega), if_pos (by omega), e, pg_self ex0 ex1]
          · rw [if_neg (by omega), if_neg hqp, if_neg (by omega)])
      refine ⟨l, l1, l2, Ev.succ ?_⟩
      simp only [flyleafref15_Row.l0]
      rw [hA.len, e1, hx]
      refine Ev.pos (by omega) (Ev.pos (by omega) (Ev.pos hf ?_))
      rcases snoc_cases out with rfl | ⟨ys, z, rfl⟩
      · refine Ev.neg (by simp) (Ev.pos (by simp) ?_)
        rw [putT_nil, if_neg (by omega)] at l3
        exact l3
      · have hlp : (ys ++ [z]).length ≤ 4096 := by omega
        have hl0 : (0 : Int) < ((ys ++ [z]).length : Int) := by simp
        have e2 : wrap64 (((ys ++ [z]).length : Int) - 1) = ((ys ++ [z]).length : Int) - 1 := w64 (by omega)
        refine Ev.pos hl0 ?_
        rw [e2, rd_last]
        refine Ev.pos (by omega) (Ev.pos (by omega) ?_)
        refine Ev.pure (refone_eq z x) ?_
        rw [putT_snoc, if_neg (by omega)] at l3
        by_cases ho : oneT z x = true
        · rw [if_pos ho] at l3
          refine Ev.pos ho ?_
          have e3 : ((((ys ++ [z]).length : Int) - 1)).toNat = ys.length := by simp
          rw [e3]
          have e4 : (ys ++ [z]).set ys.length ⟨z.f0, x.f1, z.f2, z.f3, z.f4, z.f5⟩ = ys ++ [{ z with f1 := x.f1 }] := by simp
          rw [e4]
          exact l3
        · rw [if_neg ho] at l3
          refine Ev.neg ho (Ev.pos (by omega) ?_)
          have e4 : ys ++ [z] ++ [(⟨x.f0, x.f1, x.f2, x.f3, x.f4, x.f5⟩ : S41)] = ys ++ [z, x] := by simp
          rw [e4]
          exact l3
theorem row_ev {A : List S87} {m : Int → Option S41} (hA : Rep A m) (hm : PageOk m) : ∃ l, Valid l ∧ (∀ q, mapOf l q = m q) ∧ Ev (fun k => flyleafref15_Row.f k A) l := by
  refine row_l0 hA hm 4096 0 [] (by omega) Valid.nil (by simp) (by simp) (fun q => ?_)
  rw [mapOf_nil]
  cases e : m q with
  | none => split <;> rfl
  | some x => rw [if_neg (by have := hm q x e; omega)]
theorem Valid.pages {l : List S41} (h : Valid l) : PageOk (mapOf l) := fun p x e => h.page e
/-- The document's Cut. -/
theorem refcut_l0 (a b : Int) : ∀ (d p : Nat) (A : List S87) (m : Int → Option S41), p + d = 4096 → Rep A m →
    ∃ A', Rep A' (fun q => if p ≤ q ∧ a ≤ q ∧ q < b then none else m q) ∧ ∀ r, Ev (fun k => flyleafref15_Row.f k A') r → Ev (fun k => flyleafref15_Cut.l0 k a b A (p : Int)) r := by
  intro d
  induction d with
  | zero =>
    intro p A m hp hA
    refine ⟨A, hA.congr (fun q q0 q1 => by rw [if_neg (by omega)]), fun r hr => Ev.succ ?_⟩
    simp only [flyleafref15_Cut.l0]
    exact Ev.neg (by omega) (Ev.bind hr (Ev.now _))
  | succ d ih =>
    intro p A m hp hA
    have e1 : wrap64 ((p : Int) + 1) = ((p + 1 : Nat) : Int) := by rw [w64 (by omega)]; omega
    by_cases h1 : a ≤ p ∧ p < b
    · obtain ⟨A', hA', hr'⟩ := ih (p + 1) (A.set (p : Int).toNat ⟨(rd_T87 A (p : Int)).f0, false⟩) _ (by omega) (hA.set (by omega) (by omega) ⟨(rd_T87 A (p : Int)).f0, false⟩ none rfl)
      refine ⟨A', hA'.congr (fun q q0 q1 => ?_), fun r hr => Ev.succ ?_⟩
      · by_cases hq : ((p + 1 : Nat) : Int) ≤ q ∧ a ≤ q ∧ q < b
        · rw [if_pos hq, if_pos (by omega)]
        · rw [if_neg hq]
          by_cases hqp : q = p
          · rw [if_pos hqp, if_pos (by omega)]
          · rw [if_neg hqp, if_neg (by omega)]
      · simp only [flyleafref15_Cut.l0]
        rw [hA.len, e1]
        exact Ev.pos (by omega) (Ev.pos (by omega) (Ev.pos (by omega) (Ev.pos (by omega) (Ev.pos (by omega) (hr' r hr)))))
    · obtain ⟨A', hA', hr'⟩ := ih (p + 1) A m (by omega) hA
      refine ⟨A', hA'.congr (fun q q0 q1 => ?_), fun r hr => Ev.succ ?_⟩
      · by_cases hq : ((p + 1 : Nat) : Int) ≤ q ∧ a ≤ q ∧ q < b
        · rw [if_pos hq, if_pos (by omega)]
        · rw [if_neg hq, if_neg (by omega)]
      · simp only [flyleafref15_Cut.l0]
        rw [e1]
        refine Ev.pos (by omega) ?_
        by_cases h2 : a ≤ p
        · exact Ev.pos (by omega) (Ev.neg (by omega) (hr' r hr))
        · exact Ev.neg (by omega) (hr' r hr)
theorem refcut_ev {l : List S41} (h : Valid l) (a b : Int) : ∃ l', Valid l' ∧ (∀ q, mapOf l' q = if a ≤ q ∧ q < b then none else mapOf l q) ∧ Ev (fun k => flyleafref15_Cut.f k l a b) l' := by
  obtain ⟨A, hA, hr⟩ := spread_ev h
  obtain ⟨A', hA', hr'⟩ := refcut_l0 a b 4096 0 A _ (by omega) hA
  obtain ⟨l', v', m', r'⟩ := row_ev (m := fun q => if a ≤ q ∧ q < b then none else mapOf l q) (hA'.congr (fun q q0 q1 => by
    by_cases hq : a ≤ q ∧ q < b
    · rw [if_pos hq, if_pos (by omega)]
    · rw [if_neg hq, if_neg (by omega)])) (fun p x e => by
    change (if a ≤ p ∧ p < b then none else mapOf l p) = some x at e
    by_cases hq : a ≤ p ∧ p < b
    · rw [if_pos hq] at e; cases e
    · rw [if_neg hq] at e; exact h.page e)
  exact ⟨l', v', m', by unfold flyleafref15_Cut.f; exact Ev.bind hr (hr' _ r')⟩
/-- The document's Covers. -/
theorem refcov_l0 {A : List S87} {l : List S41} (h : Valid l) (hA : Rep A (mapOf l)) (b : Int) (hb : b ≤ 4096) : ∀ (d : Nat) (p : Int), 0 ≤ p → p + d = b → Ev (fun k => flyleafref15_Covers.l0 k b A p) (covT l p b) := by
  intro d
  induction d with
  | zero =>
    intro p h0 hp
    have : covT l p b = true := (covT_iff h p b).2 (fun q h1 h2 => by omega)
    rw [this]
    refine Ev.succ ?_
    simp only [flyleafref15_Covers.l0]
    exact Ev.neg (by omega) (Ev.now _)
  | succ d ih =>
    intro p h0 hp
    have hi := hA.is h0 (by omega)
    have e1 : wrap64 (p + 1) = p + 1 := w64 (by omega)
    refine Ev.succ ?_
    simp only [flyleafref15_Covers.l0]
    rw [hA.len, e1]
    refine Ev.pos (by omega) (Ev.pos h0 (Ev.pos (by omega) ?_))
    by_cases hm : mapOf l p = none
    · have : covT l p b = false := by
        cases hc : covT l p b with
        | false => rfl
        | true => exact absurd hm ((covT_iff h p b).1 hc p (Int.le_refl _) (by omega))
      rw [this]
      exact Ev.neg (fun x => hi.1.1 x hm) (Ev.now _)
    · have : covT l p b = covT l (p + 1) b := by
        rw [Bool.eq_iff_iff, covT_iff h, covT_iff h]
        constructor
        · intro x q h1 h2; exact x q (by omega) h2
        · intro x q h1 h2
          by_cases hq : q = p
          · subst hq; exact hm
          · exact x q (by omega) h2
      rw [this]
      exact Ev.pos (hi.1.2 hm) (ih (p + 1) (by omega) (by omega))
theorem refcov_ev {l : List S41} (h : Valid l) (a b : Int) : Ev (fun k => flyleafref15_Covers.f k l a b) (covT l a b) := by
  unfold flyleafref15_Covers.f
  by_cases h0 : a ≥ b
  · have : covT l a b = true := (covT_iff h a b).2 (fun q h1 h2 => by omega)
    rw [this]
    exact Ev.pos h0 (Ev.now _)
  refine Ev.neg h0 ?_
  by_cases h1 : a < 0
  · refine Ev.pos h1 (Ev.succ ?_)
    simp only [flyleafref15_Covers.j0]
    have : covT l a b = false := by
      cases hc : covT l a b with
      | false => rfl
      | true =>
        have := (covT_iff h a b).1 hc a (Int.le_refl _) (by omega)
        cases e : mapOf l a with
        | none => exact absurd e this
        | some x => have := h.page e; omega
    rw [this]
    exact Ev.pos trivial (Ev.now _)
  refine Ev.neg h1 (Ev.succ ?_)
  simp only [flyleafref15_Covers.j0]
  by_cases h2 : b > 4096
  · have : covT l a b = false := by
      cases hc : covT l a b with
      | false => rfl
      | true =>
        obtain ⟨q, q1, q2, q3⟩ : ∃ q : Int, a ≤ q ∧ q < b ∧ 4096 ≤ q := by
          by_cases hq : a ≤ 4096
          · exact ⟨4096, hq, by omega, by omega⟩
          · exact ⟨a, by omega, by omega, by omega⟩
        have := (covT_iff h a b).1 hc q q1 q2
        cases e : mapOf l q with
        | none => exact absurd e this
        | some x => have := h.page e; omega
    rw [this, decide_eq_true h2]
    exact Ev.pos rfl (Ev.now _)
  · rw [decide_eq_false h2]
    refine Ev.neg (by decide) ?_
    obtain ⟨A, hA, hr⟩ := spread_ev h
    exact Ev.bind hr (refcov_l0 h hA b (by omega) (b - a).toNat a (by omega) (by omega))
/-- The document's Protect. -/
theorem refpro_l0 (b c : Int) (hb : b ≤ 4096) : ∀ (d : Nat) (p : Int) (A : List S87) (m : Int → Option S41), 0 ≤ p → p + d = b → Rep A m →
    ∃ A', Rep A' (fun q => if p ≤ q ∧ q < b then (m q).map (fun x => { x with f2 := c }) else m q) ∧ ∀ r, Ev (fun k => flyleafref15_Row.f k A') r → Ev (fun k => flyleafref15_Protect.l0 k b c A p) (r, 0) := by
  intro d
  induction d with
  | zero =>
    intro p A m h0 hp hA
    refine ⟨A, hA.congr (fun q q0 q1 => by rw [if_neg (by omega)]), fun r hr => Ev.succ ?_⟩
    simp only [flyleafref15_Protect.l0]
    exact Ev.neg (by omega) (Ev.bind hr (Ev.now _))
  | succ d ih =>
    intro p A m h0 hp hA
    have e1 : wrap64 (p + 1) = p + 1 := w64 (by omega)
    have hat := hA.at_ p h0 (by omega)
    obtain ⟨A', hA', hr'⟩ := ih (p + 1) (A.set p.toNat ⟨{ (rd_T87 A p).f0 with f2 := c }, (rd_T87 A p).f1⟩) _ (by omega) (by omega) (hA.set h0 (by omega) ⟨{ (rd_T87 A p).f0 with f2 := c }, (rd_T87 A p).f1⟩ ((m p).map (fun x => { x with f2 := c })) (by
      cases e : m p with
      | none => rw [e] at hat; exact hat
      | some x => rw [e] at hat; show (⟨_, _⟩ : S87) = ⟨_, _⟩; simp only at hat; rw [hat]))
    refine ⟨A', hA'.congr (fun q q0 q1 => ?_), fun r hr => Ev.succ ?_⟩
    · by_cases hq : p + 1 ≤ q ∧ q < b
      · rw [if_pos hq, if_neg (show ¬ q = p by omega), if_pos (by omega)]
      · rw [if_neg hq]
        by_cases hqp : q = p
        · subst hqp; rw [if_pos rfl, if_pos (by omega)]
        · rw [if_neg hqp, if_neg (by omega)]
    · simp only [flyleafref15_Protect.l0]
      rw [hA.len, e1]
      exact Ev.pos (by omega) (Ev.pos (by omega) (Ev.pos (by omega) (hr' r hr)))
theorem refpro_ev {l : List S41} (h : Valid l) (a b c : Int) : ∃ l' e, (e = 0 → Valid l') ∧ Ev (fun k => flyleafref15_Protect.f k l a b c) (l', e) := by
  unfold flyleafref15_Protect.f
  have bad : Ev (fun k => flyleafref15_Protect.j0 k l a b c true) ([], 1) := Ev.succ (by simp only [flyleafref15_Protect.j0]; exact Ev.pos trivial (Ev.now _))
  by_cases h1 : c < 0
  · exact ⟨[], 1, fun h => by omega, Ev.pos h1 bad⟩
  by_cases h2 : c > 7
  · exact ⟨[], 1, fun h => by omega, Ev.neg h1 (Ev.pos h2 bad)⟩
  by_cases h3 : a ≥ b
  · exact ⟨[], 1, fun h => by omega, Ev.neg h1 (Ev.neg h2 (by rw [decide_eq_true h3]; exact bad))⟩
  rw [decide_eq_false h3]
  have hc := refcov_ev h a b
  cases hcov : covT l a b with
  | false =>
    rw [hcov] at hc
    refine ⟨[], 12, fun h => by omega, Ev.neg h1 (Ev.neg h2 (Ev.succ ?_))⟩
    simp only [flyleafref15_Protect.j0]
    exact Ev.neg (by decide) (Ev.bind hc (Ev.neg (by decide) (Ev.now _)))
  | true =>
    have hp := (covT_iff h a b).1 hcov
    have ha : 0 ≤ a ∧ b ≤ 4096 := by
      constructor
      · cases e : mapOf l a with
        | none => exact absurd e (hp a (Int.le_refl _) (by omega))
        | some x => have := h.page e; omega
      · cases e : mapOf l (b - 1) with
        | none => exact absurd e (hp (b - 1) (by omega) (by omega))
        | some x => have := h.page e; omega
    obtain ⟨A, hA, hr⟩ := spread_ev h
    obtain ⟨A', hA', hr'⟩ := refpro_l0 b c ha.2 (b - a).toNat a A _ ha.1 (by omega) hA
    obtain ⟨l', v', m', r'⟩ := row_ev hA' (fun p x e => by
      by_cases hq : a ≤ p ∧ p < b
      · rw [if_pos hq] at e
        cases e2 : mapOf l p with
        | none => rw [e2] at e; cases e
        | some y =>
          rw [e2] at e
          injection e with e
          obtain ⟨p0, p1, p2, p3, p4⟩ := h.page e2
          subst e
          exact ⟨p0, p1, ⟨p2.lo, p2.lt, p2.hi, by show 0 ≤ c; omega, by show c ≤ 7; omega, p2.kd⟩, p3, p4⟩
      · rw [if_neg hq] at e; exact h.page e)
    rw [hcov] at hc
    refine ⟨l', 0, fun _ => v', Ev.neg h1 (Ev.neg h2 (Ev.succ ?_))⟩
    simp only [flyleafref15_Protect.j0]
    exact Ev.neg (by decide) (Ev.bind hc (Ev.pos rfl (Ev.bind hr (hr' _ r'))))
/-- The document's Add. -/
theorem refadd_l1 {B : List S87} {r : S41} (m : MayP r) (hB : Rep B (mapOf [r])) : ∀ (d : Nat) (p : Int) (A : List S87) (mp : Int → Option S41), r.f0 ≤ p → p + d = r.f1 → Rep A mp →
    ∃ A', Rep A' (fun q => if p ≤ q ∧ q < r.f1 then some (pg r q) else mp q) ∧ ∀ x, Ev (fun k => flyleafref15_Row.f k A') x → Ev (fun k => flyleafref15_Add.l1 k A B p r.f0 r.f1 r.f2 r.f3 r.f4 r.f5) (x, 0) := by
  have m0 := m.lo; have m1 := m.lt; have m2 := m.hi
  intro d
  induction d with
  | zero =>
    intro p A mp h0 hp hA
    refine ⟨A, hA.congr (fun q q0 q1 => by rw [if_neg (by omega)]), fun x hx => Ev.succ ?_⟩
    simp only [flyleafref15_Add.l1]
    exact Ev.neg (by omega) (Ev.bind hx (Ev.now _))
  | succ d ih =>
    intro p A mp h0 hp hA
    have e1 : wrap64 (p + 1) = p + 1 := w64 (by omega)
    have hb : rd_T87 B p = ⟨pg r p, true⟩ := by
      have := hB.at_ p (by omega) (by omega)
      rw [mapOf_one, if_pos (by omega)] at this
      exact this
    obtain ⟨A', hA', hr'⟩ := ih (p + 1) (A.set p.toNat ⟨pg r p, true⟩) _ (by omega) (by omega) (hA.set (by omega) (by omega) ⟨pg r p, true⟩ (some (pg r p)) rfl)
    refine ⟨A', hA'.congr (fun q q0 q1 => ?_), fun x hx => Ev.succ ?_⟩
    · by_cases hq : p + 1 ≤ q ∧ q < r.f1
      · rw [if_pos hq, if_pos (by omega)]
      · rw [if_neg hq]
        by_cases hqp : q = p
        · subst hqp; rw [if_pos rfl, if_pos (by omega)]
        · rw [if_neg hqp, if_neg (by omega)]
    · simp only [flyleafref15_Add.l1]
      rw [hA.len, hB.len, e1, hb]
      exact Ev.pos (by omega) (Ev.pos (by omega) (Ev.pos (by omega) (Ev.pos (by omega) (hr' x hx))))
theorem Valid.one {r : S41} (m : MayP r) : Valid [r] := ⟨by simpa using m, by simp⟩
theorem refadd_l0 {l : List S41} {r : S41} (h : Valid l) (m : MayP r) {A : List S87} (hA : Rep A (mapOf l)) : ∀ (d : Nat) (p : Int), r.f0 ≤ p → p + d = r.f1 → (∀ q, r.f0 ≤ q → q < p → mapOf l q = none) →
    ∃ l' e, (e = 0 → Valid l') ∧ Ev (fun k => flyleafref15_Add.l0 k A p r.f0 r.f1 r.f2 r.f3 r.f4 r.f5) (l', e) := by
  have m0 := m.lo; have m1 := m.lt; have m2 := m.hi
  intro d
  induction d with
  | zero =>
    intro p h0 hp hq
    obtain ⟨B, hB, hb⟩ := spread_ev (Valid.one m)
    obtain ⟨A', hA', hr'⟩ := refadd_l1 m hB (r.f1 - r.f0).toNat r.f0 A _ (Int.le_refl _) (by omega) hA
    obtain ⟨l', v', m', r'⟩ := row_ev hA' (fun p x e => by
      by_cases hq : r.f0 ≤ p ∧ p < r.f1
      · rw [if_pos hq] at e
        exact (Valid.one m).page (p := p) (x := x) (by rw [mapOf_one, if_pos hq]; exact e)
      · rw [if_neg hq] at e; exact h.page e)
    refine ⟨l', 0, fun _ => v', Ev.succ ?_⟩
    simp only [flyleafref15_Add.l0]
    exact Ev.neg (by omega) (Ev.bind hb (hr' _ r'))
  | succ d ih =>
    intro p h0 hp hq
    have e1 : wrap64 (p + 1) = p + 1 := w64 (by omega)
    have hi := hA.is (p := p) (by omega) (by omega)
    by_cases hm : mapOf l p = none
    · obtain ⟨l', e, v, hr⟩ := ih (p + 1) (by omega) (by omega) (fun q q0 q1 => by
        by_cases hqp : q = p
        · rw [hqp]; exact hm
        · exact hq q q0 (by omega))
      refine ⟨l', e, v, Ev.succ ?_⟩
      simp only [flyleafref15_Add.l0]
      rw [hA.len, e1]
      exact Ev.pos (by omega) (Ev.pos (by omega) (Ev.pos (by omega) (Ev.neg (fun x => hi.1.1 x hm) hr)))
    · refine ⟨[], 13, fun h => by omega, Ev.succ ?_⟩
      simp only [flyleafref15_Add.l0]
      rw [hA.len]
      exact Ev.pos (by omega) (Ev.pos (by omega) (Ev.pos (by omega) (Ev.pos (hi.1.2 hm) (Ev.now _))))
theorem refadd_ev {l : List S41} (h : Valid l) (r : S41) : ∃ l' e, (e = 0 → Valid l') ∧ Ev (fun k => flyleafref15_Add.f k l r.f0 r.f1 r.f2 r.f3 r.f4 r.f5) (l', e) := by
  unfold flyleafref15_Add.f
  have hm : Ev (fun k => flyleafref15_May.f k r.f0 r.f1 r.f2 r.f3 r.f4 r.f5) (mayT r) := Ev.succ (Ev.congr (fun k => refmay_eq k r) (Ev.now _))
  cases hmay : mayT r with
  | false =>
    rw [hmay] at hm
    exact ⟨[], 1, fun h => by omega, Ev.bind hm (Ev.neg (by decide) (Ev.now _))⟩
  | true =>
    rw [hmay] at hm
    have m := (mayT_iff r).1 hmay
    obtain ⟨A, hA, hr⟩ := spread_ev h
    obtain ⟨l', e, v, hl⟩ := refadd_l0 h m hA (r.f1 - r.f0).toNat r.f0 (Int.le_refl _) (by have := m.lt; omega) (fun q q0 q1 => by omega)
    exact ⟨l', e, v, Ev.bind hm (Ev.pos rfl (Ev.bind hr hl))⟩
/-- A change of the document's. -/
theorem opof_ev {l : List S41} (h : Valid l) (a0 a1 a2 a3 : Int) (a4 : Bool) (a5 a6 a7 a8 a9 a10 : Int) : ∃ l' e, (e = 0 → Valid l') ∧ Ev (fun k => flyleaflaw15_Op_of.f k a0 a1 a2 a3 a4 a5 a6 a7 a8 a9 a10 l) (l', e) := by
  unfold flyleaflaw15_Op_of.f
  obtain ⟨lc, vc, _, hc⟩ := refcut_ev h a1 a2
  obtain ⟨lp, ep, vp, hp⟩ := refpro_ev h a1 a2 a3
  obtain ⟨la, ea, va, ha⟩ := refadd_ev h ⟨a5, a6, a7, a8, a9, a10⟩
  generalize Go.bits .and .i64 a0 7 = o
  have hj1 : ∀ b, ∃ l' e, (e = 0 → Valid l') ∧ Ev (fun k => flyleaflaw15_Op_of.j1 k l b a0 a1 a2 a3 a4 a5 a6 a7 a8 a9 a10) (l', e) := by
    intro b
    cases b with
    | true => exact ⟨lp, ep, vp, Ev.succ (by simp only [flyleaflaw15_Op_of.j1]; exact Ev.pos trivial (Ev.bind hp (Ev.now _)))⟩
    | false => exact ⟨la, ea, va, Ev.succ (by simp only [flyleaflaw15_Op_of.j1]; exact Ev.neg (by decide) (Ev.bind ha (Ev.now _)))⟩
  have hj0 : ∀ b, ∃ l' e, (e = 0 → Valid l') ∧ Ev (fun k => flyleaflaw15_Op_of.j0 k l o b a0 a1 a2 a3 a4 a5 a6 a7 a8 a9 a10) (l', e) := by
    intro b
    cases b with
    | true => exact ⟨lc, 0, fun _ => vc, Ev.succ (by simp only [flyleaflaw15_Op_of.j0]; exact Ev.pos trivial (Ev.bind hc (Ev.now _)))⟩
    | false =>
      by_cases h6 : o = 6
      · obtain ⟨l', e, v, hh⟩ := hj1 (o == 6)
        exact ⟨l', e, v, Ev.succ (by simp only [flyleaflaw15_Op_of.j0]; exact Ev.neg (by decide) (Ev.pos h6 hh))⟩
      · obtain ⟨l', e, v, hh⟩ := hj1 (o == 7)
        exact ⟨l', e, v, Ev.succ (by simp only [flyleaflaw15_Op_of.j0]; exact Ev.neg (by decide) (Ev.neg h6 hh))⟩
  by_cases h4 : o = 4
  · obtain ⟨l', e, v, hh⟩ := hj0 (o == 4)
    exact ⟨l', e, v, Ev.pos h4 hh⟩
  · obtain ⟨l', e, v, hh⟩ := hj0 (o == 5)
    exact ⟨l', e, v, Ev.neg h4 hh⟩
end Go.Proofs.Ytafmeagfockdfaa.Rg
