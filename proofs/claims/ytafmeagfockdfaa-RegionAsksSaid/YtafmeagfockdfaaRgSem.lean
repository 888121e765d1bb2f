/-
  What rows of regions mean, page by page: what is told of lists by the functions of RgT.
-/
import Derived.Test.YtafmeagfockdfaaRgT
namespace Go.Proofs.Ytafmeagfockdfaa.Rg
open Go.RowKit Go.Proofs.YtafmeagfockdfaaW.PrintWords
set_option linter.unusedVariables false
set_option linter.unusedSimpArgs false

/-- A region that may be. -/
structure MayP (r : S41) : Prop where
  lo : 0 ≤ r.f0
  lt : r.f0 < r.f1
  hi : r.f1 ≤ 4096
  p0 : 0 ≤ r.f2
  p7 : r.f2 ≤ 7
  kd : (r.f3 = 1 ∧ 0 ≤ r.f4 ∧ 0 ≤ r.f5 ∧ r.f5 ≤ 1073741824 - (r.f1 - r.f0)) ∨ (1 < r.f3 ∧ r.f3 ≤ 4 ∧ r.f4 = -1 ∧ r.f5 = 0)
theorem mayT_iff (r : S41) : mayT r = true ↔ MayP r := by
  unfold mayT
  by_cases h : r.f0 < 0 ∨ r.f1 ≤ r.f0 ∨ r.f1 > 4096 ∨ r.f2 < 0 ∨ r.f2 > 7
  · rw [if_pos h]
    constructor
    · intro h; cases h
    · intro m; have := m.lo; have := m.lt; have := m.hi; have := m.p0; have := m.p7; omega
  · rw [if_neg h]
    by_cases h1 : r.f3 = 1
    · rw [if_pos h1]
      have e : wrap64 (1073741824 - wrap64 (r.f1 - r.f0)) = 1073741824 - (r.f1 - r.f0) := by unfold wrap64; omega
      rw [e]
      simp only [Bool.and_eq_true, decide_eq_true_eq]
      constructor
      · rintro ⟨a, b, c⟩; exact ⟨by omega, by omega, by omega, by omega, by omega, .inl ⟨h1, a, b, c⟩⟩
      · intro m
        rcases m.kd with ⟨_, a, b, c⟩ | ⟨a, _⟩
        · exact ⟨a, b, c⟩
        · omega
    · rw [if_neg h1]
      simp only [Bool.and_eq_true, decide_eq_true_eq]
      constructor
      · rintro ⟨a, b, c, d⟩; exact ⟨by omega, by omega, by omega, by omega, by omega, .inr ⟨a, b, c, d⟩⟩
      · intro m
        rcases m.kd with ⟨a, _⟩ | ⟨a, b, c, d⟩
        · omega
        · exact ⟨a, b, c, d⟩
/-- Two that touch one another are one. -/
def OneP (a b : S41) : Prop := a.f1 = b.f0 ∧ a.f2 = b.f2 ∧ a.f3 = b.f3 ∧ a.f4 = b.f4 ∧ (a.f3 = 1 → b.f5 = a.f5 + a.f1 - a.f0)
theorem one_iff {a : S41} (m : MayP a) (b : S41) : oneT a b = true ↔ OneP a b := by
  unfold oneT OneP
  have := m.lo; have := m.lt; have := m.hi
  by_cases h : a.f3 = 1
  · have e : wrap64 (wrap64 (a.f5 + a.f1) - a.f0) = a.f5 + a.f1 - a.f0 := by
      rcases m.kd with k | k
      · unfold wrap64; omega
      · omega
    rw [if_pos h, e]
    simp only [Bool.and_eq_true, decide_eq_true_eq, h, true_implies]
  · rw [if_neg h]
    simp only [Bool.and_eq_true, decide_eq_true_eq, h, false_implies]
/-- The one that has a page. -/
def look (l : List S41) (p : Int) : Option S41 := l.find? (fun r => decide (r.f0 ≤ p ∧ p < r.f1))
/-- A page of one. -/
def pg (r : S41) (p : Int) : S41 := ⟨p, p + 1, r.f2, r.f3, r.f4, if r.f3 = 1 then r.f5 + p - r.f0 else r.f5⟩
/-- What a page has. -/
def mapOf (l : List S41) (p : Int) : Option S41 := (look l p).map (fun r => pg r p)
/-- A row that may be. -/
structure Valid (l : List S41) : Prop where
  may : ∀ r ∈ l, MayP r
  ord : l.Pairwise (fun a b => a.f1 ≤ b.f0 ∧ oneT a b = false)
theorem Valid.nil : Valid [] := ⟨fun r h => by simp at h, List.Pairwise.nil⟩
theorem mapOf_nil (p : Int) : mapOf [] p = none := rfl
theorem look_none {l : List S41} {p : Int} (h : ∀ x ∈ l, x.f1 ≤ p) : look l p = none := by
  unfold look
  rw [List.find?_eq_none]
  intro x hx
  have := h x hx
  simp only [decide_eq_true_eq]
  omega
theorem look_none_up {l : List S41} {p : Int} (h : ∀ x ∈ l, p < x.f0) : look l p = none := by
  unfold look
  rw [List.find?_eq_none]
  intro x hx
  have := h x hx
  simp only [decide_eq_true_eq]
  omega
theorem look_append (l m : List S41) (p : Int) : look (l ++ m) p = (look l p).or (look m p) := by unfold look; rw [List.find?_append]
theorem look_one (r : S41) (p : Int) : look [r] p = if r.f0 ≤ p ∧ p < r.f1 then some r else none := by
  unfold look
  by_cases h : r.f0 ≤ p ∧ p < r.f1
  · rw [if_pos h]; simp [h]
  · rw [if_neg h]; rw [List.find?_eq_none]; intro x hx; simp at hx; subst hx; simpa using h
theorem look_cons (r : S41) (l : List S41) (p : Int) : look (r :: l) p = if r.f0 ≤ p ∧ p < r.f1 then some r else look l p := by
  unfold look
  by_cases h : r.f0 ≤ p ∧ p < r.f1
  · rw [if_pos h]; simp [h]
  · rw [if_neg h]; rw [List.find?_cons_of_neg]; simpa using h
theorem look_some {l : List S41} {p : Int} {r : S41} (h : look l p = some r) : r ∈ l ∧ r.f0 ≤ p ∧ p < r.f1 := by
  unfold look at h
  have h1 := List.mem_of_find?_eq_some h
  have h2 := List.find?_some h
  simp only [decide_eq_true_eq] at h2
  exact ⟨h1, h2⟩
theorem mapOf_append (l m : List S41) (p : Int) : mapOf (l ++ m) p = (mapOf l p).or (mapOf m p) := by
  unfold mapOf; rw [look_append]; cases look l p <;> simp
theorem mapOf_one (r : S41) (p : Int) : mapOf [r] p = if r.f0 ≤ p ∧ p < r.f1 then some (pg r p) else none := by
  unfold mapOf; rw [look_one]; split <;> rfl
theorem mapOf_cons (r : S41) (l : List S41) (p : Int) : mapOf (r :: l) p = if r.f0 ≤ p ∧ p < r.f1 then some (pg r p) else mapOf l p := by
  unfold mapOf; rw [look_cons]; split <;> rfl
theorem mapOf_none {l : List S41} {p : Int} (h : ∀ x ∈ l, x.f1 ≤ p) : mapOf l p = none := by unfold mapOf; rw [look_none h]; rfl
theorem mapOf_none_up {l : List S41} {p : Int} (h : ∀ x ∈ l, p < x.f0) : mapOf l p = none := by unfold mapOf; rw [look_none_up h]; rfl

theorem putT_nil (r : S41) : putT [] r = if r.f0 ≥ r.f1 then [] else [r] := by
  unfold putT
  by_cases h : r.f0 ≥ r.f1
  · rw [if_pos h, if_pos h]
  · rw [if_neg h, if_neg h, if_neg (by simp)]; rfl
theorem rd_last (ys : List S41) (z : S41) : rd_T41 (ys ++ [z]) (((ys ++ [z]).length : Int) - 1) = z := by
  unfold rd_T41
  have : ((((ys ++ [z]).length : Int) - 1)).toNat = ys.length := by simp
  rw [this]
  simp
theorem putT_snoc (ys : List S41) (z r : S41) : putT (ys ++ [z]) r = if r.f0 ≥ r.f1 then ys ++ [z] else if oneT z r = true then ys ++ [{ z with f1 := r.f1 }] else ys ++ [z, r] := by
  unfold putT
  rw [rd_last]
  by_cases h : r.f0 ≥ r.f1
  · rw [if_pos h, if_pos h]
  · rw [if_neg h, if_neg h]
    by_cases h1 : oneT z r = true
    · rw [if_pos ⟨by simp, h1⟩, if_pos h1]
      simp
    · rw [if_neg (fun x => h1 x.2), if_neg h1]
      simp
theorem snoc_cases (l : List S41) : l = [] ∨ ∃ ys z, l = ys ++ [z] := by
  by_cases h : l = []
  · exact .inl h
  · exact .inr ⟨l.dropLast, l.getLast h, (List.dropLast_concat_getLast h).symm⟩
theorem Valid.snoc {ys : List S41} {z : S41} (h : Valid ys) (m : MayP z) (o : ∀ x ∈ ys, x.f1 ≤ z.f0 ∧ oneT x z = false) : Valid (ys ++ [z]) := by
  refine ⟨?_, ?_⟩
  · intro r hr
    rcases List.mem_append.1 hr with h1 | h1
    · exact h.may r h1
    · simp at h1; subst h1; exact m
  · rw [List.pairwise_append]
    refine ⟨h.ord, by simp, ?_⟩
    intro a ha b hb
    simp at hb; subst hb
    exact o a ha
theorem Valid.init {ys : List S41} {z : S41} (h : Valid (ys ++ [z])) : Valid ys ∧ MayP z ∧ ∀ x ∈ ys, x.f1 ≤ z.f0 ∧ oneT x z = false := by
  have h2 := List.pairwise_append.1 h.ord
  exact ⟨⟨fun r hr => h.may r (List.mem_append.2 (.inl hr)), h2.1⟩, h.may z (by simp), fun x hx => h2.2.2 x hx z (by simp)⟩
theorem Valid.tail {r : S41} {l : List S41} (h : Valid (r :: l)) : MayP r ∧ Valid l ∧ ∀ x ∈ l, r.f1 ≤ x.f0 := by
  have h2 := List.pairwise_cons.1 h.ord
  exact ⟨h.may r (by simp), ⟨fun x hx => h.may x (by simp [hx]), h2.2⟩, fun x hx => (h2.1 x hx).1⟩
theorem oneT_apart {a b : S41} (h : a.f1 ≠ b.f0) : oneT a b = false := by unfold oneT; rw [decide_eq_false h]; rfl
/-- What a row is behind one more. -/
structure PutOk (out : List S41) (r : S41) (out' : List S41) : Prop where
  valid : Valid out'
  map : ∀ p, mapOf out' p = if r.f0 ≤ p ∧ p < r.f1 then some (pg r p) else mapOf out p
  hi : ∀ B, (∀ x ∈ out, x.f1 ≤ B) → (r.f0 < r.f1 → r.f1 ≤ B) → ∀ x ∈ out', x.f1 ≤ B
theorem putT_ok {out : List S41} {r : S41} (h : Valid out) (m : r.f0 < r.f1 → MayP r) (o : r.f0 < r.f1 → ∀ x ∈ out, x.f1 ≤ r.f0) : PutOk out r (putT out r) := by
  by_cases he : r.f0 ≥ r.f1
  · have : putT out r = out := by unfold putT; rw [if_pos he]
    rw [this]
    exact ⟨h, fun p => by rw [if_neg (by omega)], fun B hB _ => hB⟩
  have m := m (by omega)
  have o := o (by omega)
  rcases snoc_cases out with rfl | ⟨ys, z, rfl⟩
  · rw [putT_nil, if_neg he]
    refine ⟨⟨by simpa using m, by simp⟩, fun p => by rw [mapOf_one, mapOf_nil], fun B _ hB x hx => ?_⟩
    simp at hx; subst hx; exact hB (by omega)
  · rw [putT_snoc, if_neg he]
    obtain ⟨hy, mz, oz⟩ := h.init
    have hz : z.f1 ≤ r.f0 := o z (by simp)
    by_cases h1 : oneT z r = true
    · rw [if_pos h1]
      obtain ⟨e1, e2, e3, e4, e5⟩ := (one_iff mz r).1 h1
      have := mz.lo; have := mz.lt; have := m.lt; have := m.hi
      refine ⟨hy.snoc ⟨mz.lo, by show z.f0 < r.f1; omega, m.hi, mz.p0, mz.p7, ?_⟩ (fun x hx => ?_), fun p => ?_, fun B hB hr x hx => ?_⟩
      · show (z.f3 = 1 ∧ 0 ≤ z.f4 ∧ 0 ≤ z.f5 ∧ z.f5 ≤ 1073741824 - (r.f1 - z.f0)) ∨ (1 < z.f3 ∧ z.f3 ≤ 4 ∧ z.f4 = -1 ∧ z.f5 = 0)
        rcases mz.kd with k | k
        · have e5 := e5 k.1
          rcases m.kd with k2 | k2
          · left; omega
          · omega
        · exact .inr k
      · obtain ⟨a, b⟩ := oz x hx
        refine ⟨a, ?_⟩
        rw [← b]
        rfl
      · rw [mapOf_append, mapOf_append, mapOf_one, mapOf_one]
        show (mapOf ys p).or (if z.f0 ≤ p ∧ p < r.f1 then _ else none) = _
        by_cases hp : r.f0 ≤ p ∧ p < r.f1
        · rw [if_pos hp, if_pos (by omega), mapOf_none (fun x hx => by have := (oz x hx).1; omega)]
          show some (pg { z with f1 := r.f1 } p) = some (pg r p)
          unfold pg
          by_cases h3 : z.f3 = 1
          · have e5 := e5 h3
            have h3' : r.f3 = 1 := by omega
            simp only [h3, h3', if_true, S41.mk.injEq, Option.some.injEq]
            refine ⟨trivial, trivial, e2, trivial, e4, by omega⟩
          · have h3' : ¬ r.f3 = 1 := by omega
            simp only [if_neg h3, if_neg h3', S41.mk.injEq, Option.some.injEq]
            refine ⟨trivial, trivial, e2, e3, e4, ?_⟩
            rcases mz.kd with k | k
            · exact absurd k.1 h3
            · rcases m.kd with k2 | k2
              · exact absurd k2.1 h3'
              · rw [k.2.2.2, k2.2.2.2]
        · rw [if_neg hp]
          congr 1
          by_cases hq : z.f0 ≤ p ∧ p < z.f1
          · rw [if_pos (by omega), if_pos hq]; rfl
          · rw [if_neg (by omega), if_neg hq]
      · rcases List.mem_append.1 hx with hx | hx
        · exact hB x (List.mem_append.2 (.inl hx))
        · simp at hx; subst hx; exact hr (by omega)
    · rw [if_neg h1]
      have hv : Valid (ys ++ [z] ++ [r]) := h.snoc m (fun x hx => ⟨o x hx, by
        rcases List.mem_append.1 hx with hx | hx
        · have := (oz x hx).1; have := mz.lt; exact oneT_apart (by omega)
        · simp at hx; subst hx; simpa using h1⟩)
      have e : ys ++ [z, r] = ys ++ [z] ++ [r] := by simp
      rw [e]
      refine ⟨hv, fun p => ?_, fun B hB hr x hx => ?_⟩
      · rw [mapOf_append, mapOf_one]
        by_cases hp : r.f0 ≤ p ∧ p < r.f1
        · rw [if_pos hp, if_pos hp, mapOf_none (fun x hx => by have := o x hx; omega)]; rfl
        · rw [if_neg hp, if_neg hp]; simp
      · rcases List.mem_append.1 hx with hx | hx
        · exact hB x hx
        · simp at hx; subst hx; exact hr (by omega)
end Go.Proofs.Ytafmeagfockdfaa.Rg
