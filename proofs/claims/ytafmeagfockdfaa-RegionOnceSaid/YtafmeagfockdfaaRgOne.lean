/-
  Rows put together page by page: Add, told page by page; a row of the pages of one region is that region; Check; Same.
-/
import Derived.Test.YtafmeagfockdfaaRgAsk
import Derived.Test.YtafmeagfockdfaaRg6
namespace Go.Proofs.Ytafmeagfockdfaa.Rg
open Go.Proofs.Ytafmeagfockdfaa.Evs Go.RowKit Go.Proofs.YtafmeagfockdfaaW.PrintWords
set_option linter.unusedVariables false
set_option linter.unusedSimpArgs false

theorem addL_ok {r : S41} (m : MayP r) : ∀ (l out : List S41) (added : Bool), Valid out → Valid l → (∀ x ∈ out, ∀ y ∈ l, x.f1 ≤ y.f0) → (∀ y ∈ l, ¬ (y.f0 < r.f1 ∧ r.f0 < y.f1)) → (added = false → ∀ x ∈ out, x.f1 ≤ r.f0) →
    ∃ res, addL r l added out = some res ∧ Valid res ∧ ∀ p, mapOf res p = if added = false ∧ r.f0 ≤ p ∧ p < r.f1 then some (pg r p) else (mapOf l p).or (mapOf out p) := by
  have m1 := m.lt
  intro l
  induction l with
  | nil =>
    intro out added hv _ _ _ ha
    cases added with
    | true => exact ⟨out, rfl, hv, fun p => by rw [if_neg (by simp), mapOf_nil]; rfl⟩
    | false =>
      have P := putT_ok hv (fun _ => m) (fun _ => ha rfl)
      exact ⟨putT out r, rfl, P.valid, fun p => by rw [P.map, mapOf_nil]; simp⟩
  | cons x l ih =>
    intro out added hv hl ho hno ha
    obtain ⟨mx_, hvl, hr⟩ := hl.tail
    have x1 := mx_.lt
    have hx := hno x (by simp)
    unfold addL
    rw [if_neg hx]
    by_cases hc : added = false ∧ x.f0 ≥ r.f1
    · rw [if_pos hc]
      have P := putT_ok hv (fun _ => m) (fun _ => ha hc.1)
      have P1 := P.hi r.f1 (fun y hy => by have := ha hc.1 y hy; omega) (fun _ => by omega)
      have Q := putT_ok P.valid (fun _ => mx_) (fun _ y hy => by have := P1 y hy; omega)
      have Q1 := Q.hi x.f1 (fun y hy => by have := P1 y hy; omega) (fun _ => by omega)
      obtain ⟨res, h1, h2, h3⟩ := ih (putT (putT out r) x) true Q.valid hvl (fun y hy z hz => by have := Q1 y hy; have := hr z hz; omega) (fun y hy => hno y (by simp [hy])) (fun h => by cases h)
      refine ⟨res, h1, h2, fun p => ?_⟩
      rw [h3, if_neg (by simp), Q.map, P.map, mapOf_cons]
      by_cases hp : r.f0 ≤ p ∧ p < r.f1
      · rw [if_pos (show added = false ∧ r.f0 ≤ p ∧ p < r.f1 from ⟨hc.1, hp⟩), if_neg (show ¬ (x.f0 ≤ p ∧ p < x.f1) by omega), if_pos hp, mapOf_none_up (fun z hz => by have := hr z hz; omega)]
        rfl
      · rw [if_neg (show ¬ (added = false ∧ r.f0 ≤ p ∧ p < r.f1) from fun h => hp h.2), if_neg hp]
        by_cases hq : x.f0 ≤ p ∧ p < x.f1
        · rw [if_pos hq, if_pos hq, mapOf_none_up (fun z hz => by have := hr z hz; omega)]
          rfl
        · rw [if_neg hq, if_neg hq]
    · rw [if_neg hc]
      have P := putT_ok hv (fun _ => mx_) (fun _ y hy => ho y hy x (by simp))
      have P1 := P.hi x.f1 (fun y hy => by have := ho y hy x (by simp); omega) (fun _ => by omega)
      obtain ⟨res, h1, h2, h3⟩ := ih (putT out x) added P.valid hvl (fun y hy z hz => by have := P1 y hy; have := hr z hz; omega) (fun y hy => hno y (by simp [hy])) (fun h y hy => by
        have : ¬ x.f0 ≥ r.f1 := fun e => hc ⟨h, e⟩
        have := P1 y hy
        omega)
      refine ⟨res, h1, h2, fun p => ?_⟩
      rw [h3, P.map, mapOf_cons]
      by_cases hp : added = false ∧ r.f0 ≤ p ∧ p < r.f1
      · rw [if_pos hp, if_pos hp]
      · rw [if_neg hp, if_neg hp]
        by_cases hq : x.f0 ≤ p ∧ p < x.f1
        · rw [if_pos hq, if_pos hq, mapOf_none_up (fun z hz => by have := hr z hz; omega)]
          rfl
        · rw [if_neg hq, if_neg hq]
/-- region.Add of what no page has. -/
theorem add_ok {l : List S41} (h : Valid l) {r : S41} (m : MayP r) (hno : ∀ p, r.f0 ≤ p → p < r.f1 → mapOf l p = none) :
    ∃ res, region_Add.f l r.f0 r.f1 r.f2 r.f3 r.f4 r.f5 = some (res, 0) ∧ Valid res ∧ ∀ p, mapOf res p = if r.f0 ≤ p ∧ p < r.f1 then some (pg r p) else mapOf l p := by
  have m1 := m.lt
  obtain ⟨res, h1, h2, h3⟩ := addL_ok m l [] false Valid.nil h (fun x hx => by simp at hx) (fun y hy hov => by
    have my := h.may y hy
    have y1 := my.lt
    have key : ∀ q, y.f0 ≤ q → q < y.f1 → mapOf l q ≠ none := by
      intro q q0 q1 hq
      have hl2 : Rg.look l q = none := mapOf_look.1 hq
      unfold Rg.look at hl2
      rw [List.find?_eq_none] at hl2
      exact hl2 y hy (by simpa using ⟨q0, q1⟩)
    by_cases hc : y.f0 ≤ r.f0
    · exact key r.f0 hc hov.2 (hno r.f0 (Int.le_refl _) m1)
    · exact key y.f0 (Int.le_refl _) y1 (hno y.f0 (by omega) hov.1)) (fun _ x hx => by simp at hx)
  refine ⟨res, ?_, h2, fun p => ?_⟩
  · unfold region_Add.f
    have hlen := h.len
    rw [if_pos (by omega), if_pos ((mayT_iff _).2 m), h1]
    rfl
  · rw [h3]
    by_cases hp : r.f0 ≤ p ∧ p < r.f1
    · rw [if_pos (show false = false ∧ r.f0 ≤ p ∧ p < r.f1 from ⟨rfl, hp⟩), if_pos hp]
    · rw [if_neg (show ¬ (false = false ∧ r.f0 ≤ p ∧ p < r.f1) from fun x => hp x.2), if_neg hp, mapOf_nil]
      cases mapOf l p <;> rfl
/-- A row of one region's pages is that region. -/
theorem row_one {l : List S41} (h : Valid l) {r : S41} (m : MayP r) (hm : ∀ p, mapOf l p = mapOf [r] p) : l = [r] := by
  have m0 := m.lo; have m1 := m.lt
  have at_ : ∀ p, r.f0 ≤ p → p < r.f1 → mapOf l p = some (pg r p) := fun p h0 h1 => by rw [hm, mapOf_one, if_pos ⟨h0, h1⟩]
  have out_ : ∀ p, ¬ (r.f0 ≤ p ∧ p < r.f1) → mapOf l p = none := fun p h0 => by rw [hm, mapOf_one, if_neg h0]
  have ins : ∀ y ∈ l, ∀ q, y.f0 ≤ q → q < y.f1 → mapOf l q ≠ none := by
    intro y hy q q0 q1 hq
    have hl2 : Rg.look l q = none := mapOf_look.1 hq
    unfold Rg.look at hl2
    rw [List.find?_eq_none] at hl2
    exact hl2 y hy (by simpa using ⟨q0, q1⟩)
  cases l with
  | nil => have := at_ r.f0 (Int.le_refl _) m1; rw [mapOf_nil] at this; cases this
  | cons z rest =>
    obtain ⟨mz, hv, hr⟩ := h.tail
    have z0 := mz.lo; have z1 := mz.lt
    have zin : r.f0 ≤ z.f0 ∧ z.f1 ≤ r.f1 := by
      constructor
      · by_cases hc : r.f0 ≤ z.f0
        · exact hc
        · exact absurd (out_ z.f0 (by omega)) (ins z (by simp) z.f0 (Int.le_refl _) z1)
      · by_cases hc : z.f1 ≤ r.f1
        · exact hc
        · exact absurd (out_ (z.f1 - 1) (by omega)) (ins z (by simp) (z.f1 - 1) (by omega) (by omega))
    have zr : z.f0 = r.f0 := by
      by_cases hc : z.f0 = r.f0
      · exact hc
      · have := at_ r.f0 (Int.le_refl _) m1
        rw [mapOf_none_up (fun x hx => by
          rcases List.mem_cons.1 hx with rfl | hx
          · omega
          · have := hr x hx; omega)] at this
        cases this
    have pz : ∀ p, z.f0 ≤ p → p < z.f1 → pg z p = pg r p := by
      intro p h0 h1
      have := at_ p (by omega) (by omega)
      rw [mapOf_cons, if_pos ⟨h0, h1⟩] at this
      injection this
    have e0 := pz z.f0 (Int.le_refl _) z1
    unfold pg at e0
    simp only [S41.mk.injEq] at e0
    obtain ⟨_, _, e2, e3, e4, e5⟩ := e0
    have f5 : z.f5 = r.f5 := by
      by_cases h3 : z.f3 = 1
      · rw [if_pos h3, if_pos (by omega)] at e5; omega
      · rw [if_neg h3, if_neg (by omega)] at e5; exact e5
    have zend : z.f1 = r.f1 := by
      by_cases hc : z.f1 = r.f1
      · exact hc
      · exfalso
        have hp := at_ z.f1 (by omega) (by omega)
        rw [mapOf_cons, if_neg (by omega)] at hp
        unfold mapOf at hp
        cases hl : Rg.look rest z.f1 with
        | none => rw [hl] at hp; cases hp
        | some y =>
          rw [hl] at hp
          injection hp with hp
          obtain ⟨y1, y2, y3⟩ := look_some hl
          have yz := hr y y1
          have y0 : y.f0 = z.f1 := by omega
          have my := hv.may y y1
          have hone := (List.pairwise_cons.1 h.ord).1 y y1
          unfold pg at hp
          simp only [S41.mk.injEq] at hp
          obtain ⟨_, _, g2, g3, g4, g5⟩ := hp
          have : oneT z y = true := by
            rw [one_iff mz]
            refine ⟨y0.symm, by omega, by omega, by omega, fun h3 => ?_⟩
            rw [if_pos (by omega), if_pos (by omega)] at g5
            omega
          rw [this] at hone
          cases hone.2
    have hz : z = r := by
      obtain ⟨a0, a1, a2, a3, a4, a5⟩ := z
      obtain ⟨b0, b1, b2, b3, b4, b5⟩ := r
      simp only at zr zend e2 e3 e4 f5
      subst zr zend e2 e3 e4 f5
      rfl
    cases rest with
    | nil => rw [hz]
    | cons y rest =>
      exfalso
      have := hr y (by simp)
      have my := hv.may y (by simp)
      have y1 := my.lt
      exact ins y (by simp) y.f0 (Int.le_refl _) y1 (out_ y.f0 (by omega))
theorem check_l0 {l : List S41} (h : Valid l) : ∀ (d i : Nat), i + d = l.length → Ev (fun k => region_Check.l0 k l l (l.length : Int) (i : Int)) 0 := by
  have hlen := h.len
  intro d
  induction d with
  | zero =>
    intro i hi
    refine Ev.succ ?_
    simp only [region_Check.l0]
    exact Ev.neg (by omega) (Ev.now _)
  | succ d ih =>
    intro i hi
    have hil : i < l.length := by omega
    have e1 : wrap64 ((i : Int) + 1) = ((i + 1 : Nat) : Int) := by rw [w64 (by omega)]; omega
    have m := h.may l[i] (List.getElem_mem hil)
    have next := ih (i + 1) (by omega)
    refine Ev.succ ?_
    simp only [region_Check.l0]
    rw [rd41 l i hil, e1]
    have hmay : Ev (fun k => region_may.f k l[i].f0 l[i].f1 l[i].f2 l[i].f3 l[i].f4 l[i].f5) true :=
      Ev.succ (Ev.congr (fun k => (may_eq k l[i]).trans (congrArg some ((mayT_iff _).2 m))) (Ev.now _))
    refine Ev.pos (by omega) (Ev.pos (by omega) (Ev.pos (by omega) (Ev.bind hmay (Ev.pos rfl ?_))))
    by_cases h0 : (i : Int) > 0
    · have e2 : wrap64 ((i : Int) - 1) = ((i - 1 : Nat) : Int) := by rw [w64 (by omega)]; omega
      have hj : i - 1 < l.length := by omega
      rw [e2, rd41 l (i - 1) hj]
      have hp := List.pairwise_iff_getElem.1 h.ord (i - 1) i hj hil (by omega)
      refine Ev.pos h0 (Ev.pos (by omega) (Ev.pos (by omega) (Ev.neg (by omega) (Ev.pure (one_eq l[i - 1] l[i]) (Ev.neg ?_ next)))))
      rw [hp.2]; decide
    · exact Ev.neg h0 next
theorem check_ev {l : List S41} (h : Valid l) : Ev (fun k => region_Check.f k l) 0 := by
  unfold region_Check.f
  exact check_l0 h l.length 0 (by omega)
theorem same_l0 (l : List S41) (hl : l.length ≤ 4096) : ∀ (d i : Nat), i + d = l.length → Ev (fun k => flyleafref15_Same.l0 k l l (i : Int)) true := by
  intro d
  induction d with
  | zero =>
    intro i hi
    refine Ev.succ ?_
    simp only [flyleafref15_Same.l0]
    exact Ev.neg (by omega) (Ev.now _)
  | succ d ih =>
    intro i hi
    have e1 : wrap64 ((i : Int) + 1) = ((i + 1 : Nat) : Int) := by rw [w64 (by omega)]; omega
    refine Ev.succ ?_
    simp only [flyleafref15_Same.l0]
    rw [e1]
    exact Ev.pos (by omega) (Ev.pos (by omega) (Ev.pos (by omega) (Ev.neg (by simp) (ih (i + 1) (by omega)))))
theorem same_ev (l : List S41) (hl : l.length ≤ 4096) : Ev (fun k => flyleafref15_Same.f k l l) true := by
  unfold flyleafref15_Same.f
  exact Ev.pos rfl (same_l0 l hl l.length 0 (by omega))
end Go.Proofs.Ytafmeagfockdfaa.Rg
