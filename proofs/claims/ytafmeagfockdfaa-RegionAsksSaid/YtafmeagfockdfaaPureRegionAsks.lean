/-
  RegionAsks, over numbers and lists: for every script and every question the statement's function comes to true.
-/
import Derived.Test.YtafmeagfockdfaaOpRegionAsks
import Derived.Test.YtafmeagfockdfaaRgAsk
import Derived.Test.YtafmeagfockdfaaRgPro
import Derived.Test.YtafmeagfockdfaaMask
namespace Go.Proofs.Ytafmeagfockdfaa.Pure
open Go.Proofs.Ytafmeagfockdfaa.Evs Go.RowKit Go.Proofs.Ytafmeagfockdfaa.Rg Go.Proofs.YtafmeagfockdfaaW.PrintWords
set_option linter.unusedVariables false

namespace Asks
theorem small_some (a0 a1 a2 a3 : Int) (a4 : Bool) (a5 a6 a7 a8 a9 a10 : Int) : ∃ t, flyleaflaw15_Op_small.f a0 a1 a2 a3 a4 a5 a6 a7 a8 a9 a10 = some t := by
  unfold flyleaflaw15_Op_small.f
  cases a4 with
  | true => rw [if_pos rfl]; exact ⟨_, rfl⟩
  | false => rw [if_neg (by decide)]; exact ⟨_, rfl⟩
theorem reffind_l0 (l : List S41) (p : Int) (hl : l.length ≤ 4096) : ∀ (d i : Nat), i + d = l.length → Ev (fun k => flyleafref15_Find.l0 k l p (i : Int)) (findT (l.drop i) p) := by
  intro d
  induction d with
  | zero =>
    intro i hi
    rw [List.drop_of_length_le (by omega)]
    refine Ev.succ ?_
    simp only [flyleafref15_Find.l0]
    exact Ev.neg (by omega) (Ev.now _)
  | succ d ih =>
    intro i hi
    have hil : i < l.length := by omega
    have e1 : wrap64 ((i : Int) + 1) = ((i + 1 : Nat) : Int) := by rw [w64 (by omega)]; omega
    have := ih (i + 1) (by omega)
    rw [List.drop_eq_getElem_cons hil, findT_cons]
    refine Ev.succ ?_
    simp only [flyleafref15_Find.l0]
    rw [rd41 l i hil, e1]
    refine Ev.pos (by omega) (Ev.pos (by omega) ?_)
    by_cases h1 : p ≥ l[i].f0
    · refine Ev.pos h1 ?_
      by_cases h2 : p < l[i].f1
      · rw [if_pos ⟨h1, h2⟩]; exact Ev.pos h2 (Ev.now _)
      · rw [if_neg (by omega)]; exact Ev.neg h2 this
    · rw [if_neg (by omega)]; exact Ev.neg h1 this
theorem reffind_ev {l : List S41} (h : Valid l) (p : Int) : Ev (fun k => flyleafref15_Find.f k l p) (findT l p) := by
  unfold flyleafref15_Find.f
  exact reffind_l0 l p h.len l.length 0 (by omega)
/-- The document's Gap. -/
theorem refgap_l1 {A : List S87} {m : Int → Option S41} (hA : Rep A m) (en n p a : Int) (is : Bool) (h0 : 0 ≤ p) (hp : p + n ≤ 4096) (hn : 1 ≤ n)
    (yes : (∀ x, p ≤ x → x < p + n → m x = none) → (a, is) = (p, true)) (no : ¬ (∀ x, p ≤ x → x < p + n → m x = none) → Ev (fun k => flyleafref15_Gap.l0 k en n A (p + 1)) (a, is)) :
    ∀ (d : Nat) (q : Int) (free : Bool), p ≤ q → q + d = p + n → (free = true ↔ ∀ x, p ≤ x → x < q → m x = none) → Ev (fun k => flyleafref15_Gap.l1 k en n A p free q) (a, is) := by
  intro d
  induction d with
  | zero =>
    intro q free hq hd hf
    have e1 : wrap64 (p + n) = p + n := w64 (by omega)
    have e2 : wrap64 (p + 1) = p + 1 := w64 (by omega)
    have eq : q = p + n := by omega
    subst eq
    refine Ev.succ ?_
    simp only [flyleafref15_Gap.l1]
    rw [e1, e2]
    refine Ev.neg (by omega) ?_
    cases free with
    | true => rw [yes (hf.1 rfl)]; exact Ev.pos rfl (Ev.now _)
    | false => exact Ev.neg (by decide) (no (fun x => by have := hf.2 x; cases this))
  | succ d ih =>
    intro q free hq hd hf
    have e1 : wrap64 (p + n) = p + n := w64 (by omega)
    have e3 : wrap64 (q + 1) = q + 1 := w64 (by omega)
    have hi := hA.is (p := q) (by omega) (by omega)
    refine Ev.succ ?_
    simp only [flyleafref15_Gap.l1]
    rw [e1, e3, hA.len]
    refine Ev.pos (by omega) ?_
    cases free with
    | true =>
      refine Ev.pos rfl (Ev.pos (by omega) (Ev.pos (by omega) (ih (q + 1) _ (by omega) (by omega) ?_)))
      constructor
      · intro hx x x0 x1
        by_cases hxq : x = q
        · subst hxq
          cases e : m x with
          | none => rfl
          | some y => have := hi.1.2 (by rw [e]; simp); rw [this] at hx; simp at hx
        · exact hf.1 rfl x x0 (by omega)
      · intro hx
        have := hx q hq (by omega)
        cases e : (rd_T87 A q).f1 with
        | false => rfl
        | true => exact absurd this (hi.1.1 e)
    | false =>
      refine Ev.neg (by decide) (ih (q + 1) _ (by omega) (by omega) ?_)
      constructor
      · intro x; cases x
      · intro hx
        exact hf.2 (fun x x0 x1 => hx x x0 (by omega))
theorem refgap_l0 {l : List S41} {A : List S87} (hA : Rep A (mapOf l)) {lo en n a : Int} {is : Bool} (h0 : 0 ≤ lo) (hen : en ≤ 4096) (hn : 1 ≤ n) (hw : -9223372036854775808 ≤ en) (g : GapOk l lo en n a is) :
    ∀ (d : Nat) (p : Int), lo ≤ p → en - p ≤ d → (is = true → p ≤ a) → Ev (fun k => flyleafref15_Gap.l0 k en n A p) (a, is) := by
  have last : ∀ p, ¬ (p < en ∧ n ≤ en - p) → lo ≤ p → (is = true → p ≤ a) → Ev (fun k => flyleafref15_Gap.j3 k en n A p false) (a, is) := by
    intro p hp hlo hi
    have e : is = false := by
      cases hc : is with
      | false => rfl
      | true =>
        obtain ⟨g1, g2, g3, g4⟩ := g.yes hc
        have := hi hc
        omega
    rw [e, g.no e]
    refine Ev.succ ?_
    simp only [flyleafref15_Gap.j3]
    exact Ev.neg (by decide) (Ev.now _)
  intro d
  induction d with
  | zero =>
    intro p hlo hd hi
    refine Ev.succ ?_
    simp only [flyleafref15_Gap.l0]
    exact Ev.neg (by omega) (last p (by omega) hlo hi)
  | succ d ih =>
    intro p hlo hd hi
    refine Ev.succ ?_
    simp only [flyleafref15_Gap.l0]
    by_cases h1 : p < en
    · refine Ev.pos h1 ?_
      rw [w64 (n := en - p) (by omega)]
      by_cases h2 : n ≤ en - p
      · rw [decide_eq_true h2]
        refine Ev.succ ?_
        simp only [flyleafref15_Gap.j3]
        refine Ev.pos trivial (refgap_l1 hA en n p a is (by omega) (by omega) hn ?_ ?_ n.toNat p true (Int.le_refl _) (by omega) ⟨fun _ x x0 x1 => by omega, fun _ => rfl⟩)
        · intro hroom
          cases hc : is with
          | false => exact absurd hroom (g.low p hlo h1 h2 (fun x => by rw [hc] at x; cases x))
          | true =>
            have := hi hc
            by_cases e : p = a
            · rw [e]
            · exact absurd hroom (g.low p hlo h1 h2 (fun _ => by omega))
        · intro hroom
          refine ih (p + 1) (by omega) (by omega) (fun hc => ?_)
          have := hi hc
          by_cases e : p = a
          · exact absurd (by rw [e]; exact (g.yes hc).2.2.2) hroom
          · omega
      · rw [decide_eq_false h2]
        exact last p (by omega) hlo hi
    · exact Ev.neg h1 (last p (by omega) hlo hi)
theorem gaps_ev {l : List S41} (h : Valid l) (low high n : Int) (hl : low ≤ 9223372036854775807) (hh : -9223372036854775808 ≤ high) :
    ∃ r, Ev (fun k => region_Gap.f k l low high n) r ∧ Ev (fun k => flyleafref15_Gap.f k l low high n) r := by
  obtain ⟨A, hA, hs⟩ := spread_ev h
  have j1 : ∀ (r : Int × Bool) (lo : Int), lo = mx low 0 → Ev (fun k => flyleafref15_Gap.j1 k lo (mn high 4096) n A) r → Ev (fun k => flyleafref15_Gap.f k l low high n) r := by
    intro r lo hlo hr
    unfold flyleafref15_Gap.f
    refine Ev.bind hs ?_
    have j0 : Ev (fun k => flyleafref15_Gap.j0 k lo high n A) r := by
      refine Ev.succ ?_
      simp only [flyleafref15_Gap.j0]
      unfold mn at hr
      by_cases h2 : high > 4096
      · rw [if_pos (by omega)] at hr; exact Ev.pos h2 hr
      · refine Ev.neg h2 ?_
        by_cases h3 : 4096 < high
        · omega
        · rw [if_neg h3] at hr; exact hr
    unfold mx at hlo
    by_cases h1 : low < 0
    · refine Ev.pos h1 ?_
      have e : lo = 0 := by split at hlo <;> omega
      rw [e] at j0
      exact j0
    · refine Ev.neg h1 ?_
      have e : lo = low := by split at hlo <;> omega
      rw [e] at j0
      exact j0
  by_cases hn : n < 1
  · refine ⟨(0, false), by unfold region_Gap.f; exact Ev.pos hn (Ev.now _), j1 _ _ rfl (Ev.succ ?_)⟩
    simp only [flyleafref15_Gap.j1]
    exact Ev.pos hn (Ev.now _)
  · obtain ⟨a, is, g, he⟩ := gap_ev h low high n (by omega) hl
    refine ⟨_, he, j1 _ _ rfl (Ev.succ ?_)⟩
    simp only [flyleafref15_Gap.j1]
    have c1 : 0 ≤ mx low 0 := by unfold mx; split <;> omega
    have c2 : mn high 4096 ≤ 4096 ∧ -9223372036854775808 ≤ mn high 4096 := by unfold mn; split <;> omega
    exact Ev.neg hn (refgap_l0 hA c1 c2.1 (by omega) c2.2 g (mn high 4096 - mx low 0).toNat (mx low 0) (Int.le_refl _) (by omega) (fun hc => (g.yes hc).1))
/-- How many pages are there. -/
def cnt (m : Int → Option S41) : Nat → Int
  | 0 => 0
  | n + 1 => cnt m n + (if (m (n : Int)).isSome = true then 1 else 0)
def sumT : List S41 → Int
  | [] => 0
  | r :: l => (r.f1 - r.f0) + sumT l
theorem cnt_bd (m : Int → Option S41) (n : Nat) : 0 ≤ cnt m n ∧ cnt m n ≤ n := by
  induction n with
  | zero => simp [cnt]
  | succ n ih => simp only [cnt]; split <;> omega
theorem cnt_cons {r : S41} {l : List S41} (h : Valid (r :: l)) (n : Nat) : cnt (mapOf (r :: l)) n = cnt (mapOf [r]) n + cnt (mapOf l) n := by
  obtain ⟨m, hv, hr⟩ := h.tail
  induction n with
  | zero => rfl
  | succ n ih =>
    simp only [cnt]
    rw [ih, mapOf_cons, mapOf_one]
    by_cases hp : r.f0 ≤ (n : Int) ∧ (n : Int) < r.f1
    · rw [if_pos hp, if_pos hp, mapOf_none_up (fun x hx => by have := hr x hx; omega)]
      simp only [Option.isSome_some, if_true, Option.isSome_none]
      rw [if_neg (by decide)]
      omega
    · rw [if_neg hp, if_neg hp]
      simp only [Option.isSome_none]
      rw [if_neg (c := (false = true)) (by decide)]
      omega
theorem cnt_one {r : S41} (m : MayP r) (n : Nat) : cnt (mapOf [r]) n = if (n : Int) ≤ r.f0 then 0 else if (n : Int) ≤ r.f1 then n - r.f0 else r.f1 - r.f0 := by
  have m0 := m.lo; have m1 := m.lt
  induction n with
  | zero => rw [if_pos (by omega)]; rfl
  | succ n ih =>
    simp only [cnt]
    rw [ih, mapOf_one]
    by_cases hp : r.f0 ≤ (n : Int) ∧ (n : Int) < r.f1
    · rw [if_pos hp, if_neg (show ¬ ((n + 1 : Nat) : Int) ≤ r.f0 by omega), if_pos (show ((n + 1 : Nat) : Int) ≤ r.f1 by omega)]
      simp only [Option.isSome_some, if_true]
      by_cases e : (n : Int) ≤ r.f0
      · rw [if_pos e]; omega
      · rw [if_neg e, if_pos (by omega)]; omega
    · rw [if_neg hp]
      simp only [Option.isSome_none]
      rw [if_neg (c := (false = true)) (by decide)]
      by_cases e : (n : Int) < r.f0
      · rw [if_pos (by omega), if_pos (by omega)]; rfl
      · rw [if_neg (by omega), if_neg (show ¬ ((n + 1 : Nat) : Int) ≤ r.f0 by omega), if_neg (show ¬ ((n + 1 : Nat) : Int) ≤ r.f1 by omega)]
        by_cases e2 : (n : Int) ≤ r.f1
        · rw [if_pos e2]; omega
        · rw [if_neg e2]; omega
theorem cnt_sum {l : List S41} : Valid l → cnt (mapOf l) 4096 = sumT l := by
  induction l with
  | nil =>
    intro _
    have : ∀ n, cnt (mapOf []) n = 0 := by
      intro n
      induction n with
      | zero => rfl
      | succ n ih => simp only [cnt]; rw [ih, mapOf_nil]; rfl
    exact this 4096
  | cons r l ih =>
    intro h
    obtain ⟨m, hv, hr⟩ := h.tail
    have m0 := m.lo; have m1 := m.lt; have m2 := m.hi
    rw [cnt_cons h, ih hv, cnt_one m, if_neg (by omega)]
    simp only [sumT]
    by_cases e : ((4096 : Nat) : Int) ≤ r.f1
    · rw [if_pos e]; omega
    · rw [if_neg e]
theorem sumT_append (l m : List S41) : sumT (l ++ m) = sumT l + sumT m := by
  induction l with
  | nil => simp [sumT]
  | cons r l ih => simp only [List.cons_append, sumT]; rw [ih]; omega
theorem sumT_bd {l : List S41} (h : Valid l) : 0 ≤ sumT l ∧ sumT l ≤ 4096 := by
  rw [← cnt_sum h]
  have := cnt_bd (mapOf l) 4096
  omega
theorem pages_l0 {l : List S41} (h : Valid l) : ∀ (d i : Nat), i + d = l.length → Ev (fun k => region_Pages.l0 k (sumT (l.take i)) l (l.length : Int) (i : Int)) (sumT l) := by
  have hlen := h.len
  intro d
  induction d with
  | zero =>
    intro i hi
    rw [List.take_of_length_le (by omega)]
    refine Ev.succ ?_
    simp only [region_Pages.l0]
    exact Ev.neg (by omega) (Ev.now _)
  | succ d ih =>
    intro i hi
    have hil : i < l.length := by omega
    have e1 : wrap64 ((i : Int) + 1) = ((i + 1 : Nat) : Int) := by rw [w64 (by omega)]; omega
    have hs : l.take (i + 1) = l.take i ++ [l[i]] := by rw [List.take_succ_eq_append_getElem hil]
    have m := h.may l[i] (List.getElem_mem hil)
    have m0 := m.lo; have m1 := m.lt; have m2 := m.hi
    have b := sumT_bd (h.take i)
    have := ih (i + 1) (by omega)
    rw [hs, sumT_append] at this
    simp only [sumT] at this
    refine Ev.succ ?_
    simp only [region_Pages.l0]
    rw [rd41 l i hil, e1, w64 (n := l[i].f1 - l[i].f0) (by omega), w64 (n := sumT (l.take i) + (l[i].f1 - l[i].f0)) (by omega)]
    rw [show l[i].f1 - l[i].f0 + 0 = l[i].f1 - l[i].f0 by omega] at this
    exact Ev.pos (by omega) (Ev.pos (by omega) (Ev.pos (by omega) this))
theorem pages_ev {l : List S41} (h : Valid l) : Ev (fun k => region_Pages.f k l) (sumT l) := by
  unfold region_Pages.f
  exact pages_l0 h l.length 0 (by omega)
theorem key_some (a b c d e f p : Int) : ∃ t, region_Key.f a b c d e f p = some t ∧ flyleafref15_Key.f a b c d e f p = some t := by
  unfold region_Key.f flyleafref15_Key.f
  by_cases h1 : d = 1
  · rw [if_pos h1]
    by_cases h2 : p < a
    · rw [if_pos h2]; exact ⟨_, rfl, rfl⟩
    · rw [if_neg h2]
      by_cases h3 : p ≥ b
      · rw [if_pos h3]; exact ⟨_, rfl, rfl⟩
      · rw [if_neg h3]; exact ⟨_, rfl, rfl⟩
  · rw [if_neg h1]; exact ⟨_, rfl, rfl⟩
theorem l1_ev {l : List S41} (h : Valid l) {A : List S87} (hA : Rep A (mapOf l)) (b1 b2 : Bool) (g : Int) (q0 q1 q2 q3 y0 y1 y2 y3 y4 y5 z0 z1 : Int) (b3 : Bool) :
    ∀ (d n : Nat), n + d = 4096 → Ev (fun k => flyleaflaw15_RegionAsks.l1 k true l b1 b1 g b2 g b2 b3 b3 (cnt (mapOf l) n) A (n : Int) q0 q1 q2 q3 y0 y1 y2 y3 y4 y5 y0 y1 y2 y3 y4 y5 z0 z1 z0 z1) true := by
  intro d
  induction d with
  | zero =>
    intro n hn
    have hn' : n = 4096 := by omega
    subst hn'
    refine Ev.succ ?_
    simp only [flyleaflaw15_RegionAsks.l1]
    rw [hA.len]
    refine Ev.neg (by omega) (Ev.pos trivial (Ev.pos (by simp) (Ev.pos (by simp) (Ev.pos trivial (Ev.pos (by simp) (Ev.pos (by simp) (Ev.pos (by simp) ?_)))))))
    refine Ev.bind (covers_ev l q1 q2 (by have := h.len; omega)) (Ev.bind (refcov_ev h q1 q2) (Ev.pos (by simp) (Ev.bind (pages_ev h) ?_)))
    rw [cnt_sum h]
    simp only [BEq.rfl]
    exact Ev.now _
  | succ d ih =>
    intro n hn
    have hi := hA.is (p := (n : Int)) (by omega) (by omega)
    have e1 : wrap64 ((n : Int) + 1) = ((n + 1 : Nat) : Int) := by rw [w64 (by omega)]; omega
    have b := cnt_bd (mapOf l) n
    have e2 : wrap64 (cnt (mapOf l) n + 1) = cnt (mapOf l) n + 1 := w64 (by omega)
    have := ih (n + 1) (by omega)
    simp only [cnt] at this
    refine Ev.succ ?_
    simp only [flyleaflaw15_RegionAsks.l1]
    rw [hA.len, e1, e2]
    refine Ev.pos (by omega) (Ev.pos (by omega) ?_)
    cases e : mapOf l (n : Int) with
    | none =>
      rw [e] at this
      refine Ev.neg (fun x => hi.1.1 x e) ?_
      simpa using this
    | some x =>
      rw [e] at this
      refine Ev.pos (hi.1.2 (by rw [e]; simp)) ?_
      simpa using this
theorem script_ev (s : List S69) (q0 q1 q2 q3 : Int) (hl : q1 ≤ 9223372036854775807) (hh : -9223372036854775808 ≤ q2) : ∀ (d i : Nat) (l : List S41), i + d = min 15 s.length → Valid l → Ev (fun k => flyleaflaw15_RegionAsks.l0 k s true l (i : Int) q0 q1 q2 q3) true := by
  have fin : ∀ (i : Int) (l : List S41), Valid l → Ev (fun k => flyleaflaw15_RegionAsks.j1 k s true l i false q0 q1 q2 q3) true := by
    intro i l h
    refine Ev.succ ?_
    simp only [flyleaflaw15_RegionAsks.j1]
    refine Ev.neg (by decide) ?_
    obtain ⟨g, hg1, hg2⟩ := gaps_ev h q1 q2 q3 hl hh
    obtain ⟨A, hA, hs⟩ := spread_ev h
    refine Ev.bind (find_ev h q0) (Ev.bind (reffind_ev h q0) (Ev.bind hg1 (Ev.bind hg2 ?_)))
    obtain ⟨t, ht1, ht2⟩ := key_some (findT l q0).1 (findT l q0).2.1 (findT l q0).2.2.1 (findT l q0).2.2.2.1 (findT l q0).2.2.2.2.1 (findT l q0).2.2.2.2.2.1 q0
    refine Ev.pure ht1 (Ev.pure ht2 (Ev.bind hs ?_))
    exact l1_ev h hA _ _ _ _ _ _ _ _ _ _ _ _ _ _ _ _ 4096 0 (by omega)
  intro d
  induction d with
  | zero =>
    intro i l hi h
    refine Ev.succ ?_
    simp only [flyleaflaw15_RegionAsks.l0]
    by_cases h1 : (i : Int) < (s.length : Int)
    · refine Ev.pos h1 ?_
      rw [decide_eq_false (by omega)]
      exact fin _ l h
    · exact Ev.neg h1 (fin _ l h)
  | succ d ih =>
    intro i l hi h
    have e1 : wrap64 ((i : Int) + 1) = ((i + 1 : Nat) : Int) := by rw [w64 (by omega)]; omega
    refine Ev.succ ?_
    simp only [flyleaflaw15_RegionAsks.l0]
    refine Ev.pos (by omega) ?_
    rw [decide_eq_true (by omega)]
    refine Ev.succ ?_
    simp only [flyleaflaw15_RegionAsks.j1]
    rw [e1]
    refine Ev.pos trivial (Ev.pos (by omega) (Ev.pos (by omega) ?_))
    obtain ⟨t, ht⟩ := small_some ((rd_T69 s (i : Int)).f0) ((rd_T69 s (i : Int)).f1) ((rd_T69 s (i : Int)).f2) ((rd_T69 s (i : Int)).f3) ((rd_T69 s (i : Int)).f4) ((rd_T69 s (i : Int)).f5.f0) ((rd_T69 s (i : Int)).f5.f1) ((rd_T69 s (i : Int)).f5.f2) ((rd_T69 s (i : Int)).f5.f3) ((rd_T69 s (i : Int)).f5.f4) ((rd_T69 s (i : Int)).f5.f5)
    refine Ev.pure ht ?_
    obtain ⟨l', e, hv, he⟩ := opof_ev h t.1 t.2.1 t.2.2.1 t.2.2.2.1 t.2.2.2.2.1 t.2.2.2.2.2.1 t.2.2.2.2.2.2.1 t.2.2.2.2.2.2.2.1 t.2.2.2.2.2.2.2.2.1 t.2.2.2.2.2.2.2.2.2.1 t.2.2.2.2.2.2.2.2.2.2
    refine Ev.bind he ?_
    by_cases h0 : e = 0
    · exact Ev.pos h0 (ih (i + 1) l' (by omega) (hv h0))
    · exact Ev.neg h0 (ih (i + 1) l (by omega) h)
theorem wf_i64 {n : Int} (h : (Lit.int .i64 n).wf = true) : -9223372036854775808 ≤ n ∧ n ≤ 9223372036854775807 := by
  simp [Lit.wf, IntKind.min, IntKind.max, IntKind.bits, IntKind.signed] at h
  omega
end Asks
theorem RegionAsks : Rg.RegionAsks.Said := by
  intro s q _ hq
  refine Ev.rounds ?_
  unfold flyleaflaw15_RegionAsks.f
  exact Ev.bind awake_ev (Asks.script_ev s q.f0 q.f1 q.f2 q.f3 (Asks.wf_i64 hq.2.1).2 (Asks.wf_i64 hq.2.2.1).1 (min 15 s.length) 0 [] (by omega) Valid.nil)
end Go.Proofs.Ytafmeagfockdfaa.Pure
