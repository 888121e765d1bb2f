/-
  What region.Cut, region.Protect and region.Add make of a row, page by page.
-/
import Derived.Test.YtafmeagfockdfaaRgSem
namespace Go.Proofs.Ytafmeagfockdfaa.Rg
open Go.RowKit Go.Proofs.YtafmeagfockdfaaW.PrintWords
set_option linter.unusedVariables false
set_option linter.unusedSimpArgs false

theorem partT_f0 (r : S41) (a b : Int) : (partT r a b).f0 = a := by unfold partT; split <;> rfl
theorem partT_f1 (r : S41) (a b : Int) : (partT r a b).f1 = b := by unfold partT; split <;> rfl
theorem partT_eq {r : S41} (m : MayP r) {a b : Int} (h0 : r.f0 ≤ a) (h1 : a ≤ 4096) : partT r a b = ⟨a, b, r.f2, r.f3, r.f4, if r.f3 = 1 then r.f5 + a - r.f0 else r.f5⟩ := by
  unfold partT
  have := m.lo; have := m.lt; have := m.hi
  by_cases h : r.f3 = 1
  · rw [if_pos h, if_pos h]
    rcases m.kd with k | k
    · have e : wrap64 (r.f5 + wrap64 (a - r.f0)) = r.f5 + a - r.f0 := by unfold wrap64; omega
      rw [e]
    · omega
  · rw [if_neg h, if_neg h]
theorem part_may {r : S41} (m : MayP r) {a b : Int} (h0 : r.f0 ≤ a) (h1 : a < b) (h2 : b ≤ r.f1) : MayP (partT r a b) := by
  have := m.lo; have := m.lt; have := m.hi
  rw [partT_eq m h0 (by omega)]
  refine ⟨by show 0 ≤ a; omega, h1, by show b ≤ 4096; omega, m.p0, m.p7, ?_⟩
  show (r.f3 = 1 ∧ 0 ≤ r.f4 ∧ 0 ≤ (if r.f3 = 1 then r.f5 + a - r.f0 else r.f5) ∧ (if r.f3 = 1 then r.f5 + a - r.f0 else r.f5) ≤ 1073741824 - (b - a)) ∨ (1 < r.f3 ∧ r.f3 ≤ 4 ∧ r.f4 = -1 ∧ (if r.f3 = 1 then r.f5 + a - r.f0 else r.f5) = 0)
  rcases m.kd with k | k
  · left; rw [if_pos k.1]; omega
  · right; rw [if_neg (by omega)]; exact k
theorem part_pg {r : S41} (m : MayP r) {a b p : Int} (h0 : r.f0 ≤ a) (h1 : a ≤ 4096) : pg (partT r a b) p = pg r p := by
  rw [partT_eq m h0 h1]
  unfold pg
  by_cases h : r.f3 = 1
  · simp only [h, if_true, S41.mk.injEq]
    refine ⟨trivial, trivial, trivial, trivial, trivial, by omega⟩
  · simp only [if_neg h]
/-- A change that goes region by region: what it makes of each page. -/
structure Turns (g : List S41 → S41 → List S41) (t : Int → S41 → Option S41) : Prop where
  step : ∀ out r, Valid out → MayP r → (∀ x ∈ out, x.f1 ≤ r.f0) →
    Valid (g out r) ∧ (∀ p, mapOf (g out r) p = if r.f0 ≤ p ∧ p < r.f1 then t p (pg r p) else mapOf out p) ∧ ∀ x ∈ g out r, x.f1 ≤ r.f1
theorem fold_turns {g : List S41 → S41 → List S41} {t : Int → S41 → Option S41} (T : Turns g t) (l : List S41) : ∀ out, Valid out → Valid l → (∀ x ∈ out, ∀ y ∈ l, x.f1 ≤ y.f0) →
    Valid (l.foldl g out) ∧ ∀ p, mapOf (l.foldl g out) p = match mapOf l p with | some x => t p x | none => mapOf out p := by
  induction l with
  | nil => intro out h _ _; exact ⟨h, fun p => rfl⟩
  | cons r l ih =>
    intro out h hl ho
    obtain ⟨m, hv, hr⟩ := hl.tail
    obtain ⟨s1, s2, s3⟩ := T.step out r h m (fun x hx => ho x hx r (by simp))
    obtain ⟨i1, i2⟩ := ih (g out r) s1 hv (fun x hx y hy => by have := s3 x hx; have := hr y hy; omega)
    refine ⟨i1, fun p => ?_⟩
    show mapOf (l.foldl g (g out r)) p = _
    rw [i2, mapOf_cons]
    by_cases hp : r.f0 ≤ p ∧ p < r.f1
    · rw [if_pos hp, mapOf_none_up (fun x hx => by have := hr x hx; omega)]
      show mapOf (g out r) p = t p (pg r p)
      rw [s2, if_pos hp]
    · rw [if_neg hp]
      cases hm : mapOf l p with
      | some x => rfl
      | none => show mapOf (g out r) p = mapOf out p; rw [s2, if_neg hp]
theorem cut_turns (a b : Int) : Turns (cutT a b) (fun p x => if a ≤ p ∧ p < b then none else some x) where
  step := by
    intro out r h m o
    have := m.lo; have := m.lt; have := m.hi
    unfold cutT
    by_cases hc : a ≥ b ∨ r.f1 ≤ a ∨ r.f0 ≥ b
    · rw [if_pos hc]
      have P := putT_ok h (fun _ => m) (fun _ => o)
      refine ⟨P.valid, fun p => ?_, P.hi _ (fun x hx => by have := o x hx; omega) (fun _ => by omega)⟩
      rw [P.map]
      by_cases hp : r.f0 ≤ p ∧ p < r.f1
      · rw [if_pos hp, if_pos hp]
        show _ = if a ≤ p ∧ p < b then _ else _
        rw [if_neg (by omega)]
      · rw [if_neg hp, if_neg hp]
    · rw [if_neg hc]
      have P := putT_ok (r := partT r r.f0 a) h (fun hx => by rw [partT_f0, partT_f1] at hx; exact part_may m (Int.le_refl _) hx (by omega)) (fun _ => by rw [partT_f0]; exact o)
      obtain ⟨e, e1, e2, e3⟩ : ∃ e : Int, r.f0 ≤ e ∧ a ≤ e ∧ (e = r.f0 ∨ e = a) := by
        by_cases hh : r.f0 ≤ a
        · exact ⟨a, by omega, by omega, .inr rfl⟩
        · exact ⟨r.f0, by omega, by omega, .inl rfl⟩
      have P1 := P.hi e (fun x hx => by have := o x hx; omega) (fun hx => by rw [partT_f1]; omega)
      have Q := putT_ok (r := partT r b r.f1) P.valid (fun hx => by rw [partT_f0, partT_f1] at hx; exact part_may m (by omega) hx (by omega)) (fun _ x hx => by rw [partT_f0]; have := P1 x hx; omega)
      refine ⟨Q.valid, fun p => ?_, Q.hi _ (fun x hx => by have := P1 x hx; omega) (fun _ => by rw [partT_f1]; omega)⟩
      rw [Q.map, P.map, partT_f0, partT_f1, partT_f0, partT_f1]
      by_cases hp : r.f0 ≤ p ∧ p < r.f1
      · rw [if_pos hp]
        show _ = if a ≤ p ∧ p < b then none else some (pg r p)
        by_cases h1 : b ≤ p ∧ p < r.f1
        · rw [if_pos h1, if_neg (by omega), part_pg m (by omega) (by omega)]
        · rw [if_neg h1]
          by_cases h2 : r.f0 ≤ p ∧ p < a
          · rw [if_pos h2, if_neg (by omega), part_pg m (by omega) (by omega)]
          · rw [if_neg h2, if_pos (by omega), mapOf_none (fun x hx => by have := o x hx; omega)]
      · rw [if_neg hp, if_neg (by omega), if_neg (by omega)]
theorem pro_turns (a b q : Int) (h0 : 0 ≤ q) (h7 : q ≤ 7) : Turns (proT a b q) (fun p x => if a ≤ p ∧ p < b then some { x with f2 := q } else some x) where
  step := by
    intro out r h m o
    have := m.lo; have := m.lt; have := m.hi
    unfold proT
    obtain ⟨c, hc⟩ : ∃ c, mx r.f0 a = c := ⟨_, rfl⟩
    obtain ⟨d, hd⟩ : ∃ d, mn r.f1 b = d := ⟨_, rfl⟩
    rw [hc, hd]
    have c1 : r.f0 ≤ c ∧ a ≤ c ∧ (c = r.f0 ∨ c = a) := by unfold mx at hc; split at hc <;> omega
    have d1 : d ≤ r.f1 ∧ d ≤ b ∧ (d = r.f1 ∨ d = b) := by unfold mn at hd; split at hd <;> omega
    by_cases hcd : c ≥ d
    · rw [if_pos hcd]
      have P := putT_ok h (fun _ => m) (fun _ => o)
      refine ⟨P.valid, fun p => ?_, P.hi _ (fun x hx => by have := o x hx; omega) (fun _ => by omega)⟩
      rw [P.map]
      by_cases hp : r.f0 ≤ p ∧ p < r.f1
      · rw [if_pos hp, if_pos hp]
        show _ = if a ≤ p ∧ p < b then _ else _
        rw [if_neg (by omega)]
      · rw [if_neg hp, if_neg hp]
    · rw [if_neg hcd]
      have P := putT_ok (r := partT r r.f0 c) h (fun hx => by rw [partT_f0, partT_f1] at hx; exact part_may m (Int.le_refl _) hx (by omega)) (fun _ => by rw [partT_f0]; exact o)
      have P1 := P.hi c (fun x hx => by have := o x hx; omega) (fun hx => by rw [partT_f1]; omega)
      have my : MayP { partT r c d with f2 := q } := by
        have k := part_may m (a := c) (b := d) (by omega) (by omega) (by omega)
        exact ⟨k.lo, k.lt, k.hi, h0, h7, k.kd⟩
      have Q := putT_ok (r := { partT r c d with f2 := q }) P.valid (fun _ => my) (fun _ x hx => by show x.f1 ≤ (partT r c d).f0; rw [partT_f0]; exact P1 x hx)
      have Q1 := Q.hi d (fun x hx => by have := P1 x hx; omega) (fun hx => by show (partT r c d).f1 ≤ d; rw [partT_f1]; omega)
      have R := putT_ok (r := partT r d r.f1) Q.valid (fun hx => by rw [partT_f0, partT_f1] at hx; exact part_may m (by omega) hx (by omega)) (fun _ x hx => by rw [partT_f0]; exact Q1 x hx)
      refine ⟨R.valid, fun p => ?_, R.hi _ (fun x hx => by have := Q1 x hx; omega) (fun _ => by rw [partT_f1]; omega)⟩
      rw [R.map, Q.map, P.map]
      show (if (partT r d r.f1).f0 ≤ p ∧ p < (partT r d r.f1).f1 then _ else if (partT r c d).f0 ≤ p ∧ p < (partT r c d).f1 then _ else _) = _
      rw [partT_f0, partT_f1, partT_f0, partT_f1, partT_f0, partT_f1]
      by_cases hp : r.f0 ≤ p ∧ p < r.f1
      · rw [if_pos hp]
        show _ = if a ≤ p ∧ p < b then some { pg r p with f2 := q } else some (pg r p)
        by_cases h1 : d ≤ p ∧ p < r.f1
        · rw [if_pos h1, if_neg (by omega), part_pg m (by omega) (by omega)]
        · rw [if_neg h1]
          by_cases h2 : c ≤ p ∧ p < d
          · rw [if_pos h2, if_pos (by omega)]
            have e : pg { partT r c d with f2 := q } p = { pg (partT r c d) p with f2 := q } := rfl
            rw [e, part_pg m (by omega) (by omega)]
          · rw [if_neg h2, if_pos (by omega), if_neg (by omega), part_pg m (by omega) (by omega)]
      · rw [if_neg hp, if_neg (by omega), if_neg (by omega), if_neg (by omega)]
/-- region.Cut. -/
theorem cut_ok {l : List S41} (h : Valid l) (a b : Int) : Valid (l.foldl (cutT a b) []) ∧ ∀ p, mapOf (l.foldl (cutT a b) []) p = if a ≤ p ∧ p < b then none else mapOf l p := by
  obtain ⟨h1, h2⟩ := fold_turns (cut_turns a b) l [] Valid.nil h (fun x hx => by simp at hx)
  refine ⟨h1, fun p => ?_⟩
  rw [h2]
  cases mapOf l p with
  | some x => rfl
  | none => show mapOf [] p = _; rw [mapOf_nil]; simp
/-- region.Protect. -/
theorem pro_ok {l : List S41} (h : Valid l) (a b q : Int) (h0 : 0 ≤ q) (h7 : q ≤ 7) : Valid (l.foldl (proT a b q) []) ∧ ∀ p, mapOf (l.foldl (proT a b q) []) p = (mapOf l p).map (fun x => if a ≤ p ∧ p < b then { x with f2 := q } else x) := by
  obtain ⟨h1, h2⟩ := fold_turns (pro_turns a b q h0 h7) l [] Valid.nil h (fun x hx => by simp at hx)
  refine ⟨h1, fun p => ?_⟩
  rw [h2]
  cases mapOf l p with
  | some x => show (if _ then _ else _) = some (if _ then _ else _); split <;> rfl
  | none => rfl
/-- Is each page of a range there? -/
theorem covL_iff {l : List S41} (h : Valid l) (b : Int) : ∀ a, (b ≤ covL b l a ↔ ∀ p, a ≤ p → p < b → mapOf l p ≠ none) := by
  induction l with
  | nil =>
    intro a
    show b ≤ a ↔ _
    constructor
    · intro h p h1 h2; omega
    · intro h
      by_cases hc : b ≤ a
      · exact hc
      · exact absurd rfl (h a (by omega) (by omega))
  | cons r l ih =>
    intro a
    obtain ⟨m, hv, hr⟩ := h.tail
    have := m.lt
    unfold covL
    by_cases hc : a ≥ b ∨ r.f0 > a
    · rw [if_pos hc]
      constructor
      · intro h p h1 h2; omega
      · intro h
        by_cases hb : b ≤ a
        · exact hb
        · refine absurd ?_ (h a (by omega) (by omega))
          exact mapOf_none_up (fun x hx => by
            rcases List.mem_cons.1 hx with rfl | hx
            · omega
            · have := hr x hx; omega)
    · rw [if_neg hc, ih hv]
      obtain ⟨c, hc'⟩ : ∃ c, mx a r.f1 = c := ⟨_, rfl⟩
      rw [hc']
      have c1 : a ≤ c ∧ r.f1 ≤ c ∧ (c = a ∨ c = r.f1) := by unfold mx at hc'; split at hc' <;> omega
      constructor
      · intro h p h1 h2
        rw [mapOf_cons]
        by_cases hp : r.f0 ≤ p ∧ p < r.f1
        · rw [if_pos hp]; simp
        · rw [if_neg hp]
          by_cases hq : c ≤ p
          · exact h p hq h2
          · exfalso; omega
      · intro h p h1 h2
        have := h p (by omega) h2
        rw [mapOf_cons, if_neg (by omega)] at this
        exact this
theorem covT_iff {l : List S41} (h : Valid l) (a b : Int) : covT l a b = true ↔ ∀ p, a ≤ p → p < b → mapOf l p ≠ none := by
  unfold covT
  rw [decide_eq_true_iff]
  exact covL_iff h b a
/-- How long a row is. -/
theorem Valid.length {l : List S41} : ∀ n : Nat, l.length = n → Valid l → ∀ B : Int, 0 ≤ B → (∀ x ∈ l, x.f1 ≤ B) → (n : Int) ≤ B := by
  intro n
  induction n generalizing l with
  | zero => intro _ _ B h _; simpa using h
  | succ n ih =>
    intro hn h B h0 hB
    rcases snoc_cases l with rfl | ⟨ys, z, rfl⟩
    · simp at hn
    · obtain ⟨hy, mz, oz⟩ := h.init
      have := ih (l := ys) (by simpa using hn) hy z.f0 mz.lo (fun x hx => (oz x hx).1)
      have := hB z (by simp)
      have := mz.lt
      omega
theorem Valid.len {l : List S41} (h : Valid l) : l.length ≤ 4096 := by
  have := Valid.length l.length rfl h 4096 (by omega) (fun x hx => (h.may x hx).hi)
  omega
theorem mapOf_look {l : List S41} {p : Int} : mapOf l p = none ↔ look l p = none := by unfold mapOf; simp
theorem Valid.page {l : List S41} (h : Valid l) {p : Int} {x : S41} (e : mapOf l p = some x) : 0 ≤ p ∧ p < 4096 ∧ MayP x ∧ x.f0 = p ∧ x.f1 = p + 1 := by
  unfold mapOf at e
  cases hl : look l p with
  | none => rw [hl] at e; cases e
  | some r =>
    rw [hl] at e
    injection e with e
    obtain ⟨h1, h2, h3⟩ := look_some hl
    have m := h.may r h1
    have := m.lo; have := m.lt; have := m.hi
    subst e
    refine ⟨by omega, by omega, ⟨by show 0 ≤ p; omega, by show p < p + 1; omega, by show p + 1 ≤ 4096; omega, m.p0, m.p7, ?_⟩, rfl, rfl⟩
    show (r.f3 = 1 ∧ 0 ≤ r.f4 ∧ 0 ≤ (if r.f3 = 1 then r.f5 + p - r.f0 else r.f5) ∧ (if r.f3 = 1 then r.f5 + p - r.f0 else r.f5) ≤ 1073741824 - (p + 1 - p)) ∨ (1 < r.f3 ∧ r.f3 ≤ 4 ∧ r.f4 = -1 ∧ (if r.f3 = 1 then r.f5 + p - r.f0 else r.f5) = 0)
    rcases m.kd with k | k
    · left; rw [if_pos k.1]; omega
    · right; rw [if_neg (by omega)]; exact k
end Go.Proofs.Ytafmeagfockdfaa.Rg
