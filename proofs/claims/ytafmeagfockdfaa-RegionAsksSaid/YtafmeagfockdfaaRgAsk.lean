/-
  What rows of regions are asked: Find, Gap, Pages; and the chapter's example.
-/
import Derived.Test.YtafmeagfockdfaaRgRef
import Derived.Test.YtafmeagfockdfaaRg5
import Derived.Test.YtafmeagfockdfaaRg12
import Derived.Test.YtafmeagfockdfaaRg14
import Derived.KernelRfl
namespace Go.Proofs.Ytafmeagfockdfaa.Rg
open Go.Proofs.Ytafmeagfockdfaa.Evs Go.RowKit Go.Proofs.YtafmeagfockdfaaW.PrintWords
set_option linter.unusedVariables false
set_option linter.unusedSimpArgs false

theorem awake_ev : Ev (fun k => flyleaflaw15_awake.f k) true :=
  Ev.of flyleaflaw15_awake.mono (k := 5) (by kernel_rfl)
/-- What Find tells. -/
def findT (l : List S41) (p : Int) : Int × Int × Int × Int × Int × Int × Bool :=
  match look l p with
  | some r => (r.f0, r.f1, r.f2, r.f3, r.f4, r.f5, true)
  | none => (0, 0, 0, 0, 0, 0, false)
theorem findT_cons (r : S41) (l : List S41) (p : Int) : findT (r :: l) p = if r.f0 ≤ p ∧ p < r.f1 then (r.f0, r.f1, r.f2, r.f3, r.f4, r.f5, true) else findT l p := by
  unfold findT; rw [look_cons]
  by_cases h : r.f0 ≤ p ∧ p < r.f1
  · rw [if_pos h, if_pos h]
  · rw [if_neg h, if_neg h]
theorem find_l0 (l : List S41) (p : Int) (hl : l.length ≤ 4096) : ∀ (d i : Nat), i + d = l.length → Ev (fun k => region_Find.l0 k p l (l.length : Int) (i : Int)) (findT (l.drop i) p) := by
  intro d
  induction d with
  | zero =>
    intro i hi
    rw [List.drop_of_length_le (by omega)]
    refine Ev.succ ?_
    simp only [region_Find.l0]
    exact Ev.neg (by omega) (Ev.now _)
  | succ d ih =>
    intro i hi
    have hil : i < l.length := by omega
    have e1 : wrap64 ((i : Int) + 1) = ((i + 1 : Nat) : Int) := by rw [w64 (by omega)]; omega
    have := ih (i + 1) (by omega)
    rw [List.drop_eq_getElem_cons hil, findT_cons]
    refine Ev.succ ?_
    simp only [region_Find.l0]
    rw [rd41 l i hil, e1]
    refine Ev.pos (by omega) (Ev.pos (by omega) (Ev.pos (by omega) ?_))
    by_cases h1 : p ≥ l[i].f0
    · refine Ev.pos h1 ?_
      by_cases h2 : p < l[i].f1
      · rw [if_pos ⟨h1, h2⟩]; exact Ev.pos h2 (Ev.now _)
      · rw [if_neg (by omega)]; exact Ev.neg h2 this
    · rw [if_neg (by omega)]; exact Ev.neg h1 this
theorem find_ev {l : List S41} (h : Valid l) (p : Int) : Ev (fun k => region_Find.f k l p) (findT l p) := by
  unfold region_Find.f
  exact find_l0 l p h.len l.length 0 (by omega)
theorem findT_is (l : List S41) (p : Int) : (findT l p).2.2.2.2.2.2 = (mapOf l p).isSome := by
  unfold findT mapOf
  cases look l p <;> rfl
/-- At a page there is room. -/
def Room (l : List S41) (n p : Int) : Prop := ∀ q, p ≤ q → q < p + n → mapOf l q = none
/-- What Gap tells. -/
structure GapOk (l : List S41) (lo en n at_ : Int) (is : Bool) : Prop where
  yes : is = true → lo ≤ at_ ∧ at_ < en ∧ n ≤ en - at_ ∧ Room l n at_
  no : is = false → at_ = 0
  low : ∀ p, lo ≤ p → p < en → n ≤ en - p → (is = true → p < at_) → ¬ Room l n p
theorem gap_end {l : List S41} {lo en n at_ : Int} (h0 : 0 ≤ lo) (hen : en ≤ 4096) (hn : 1 ≤ n) (hlo : lo ≤ at_) (hb : ∀ p, lo ≤ p → p < at_ → ¬ Room l n p) (hr : Room l n at_) :
    ∃ a is, GapOk l lo en n a is ∧ (if at_ ≥ en then (some (0, false)) else (if n > wrap64 (en - at_) then (some (0, false)) else (some (at_, true)))) = some (a, is) := by
  by_cases h1 : at_ ≥ en
  · exact ⟨0, false, ⟨fun h => by simp at h, fun _ => rfl, fun p p0 p1 p2 _ => hb p p0 (by omega)⟩, by rw [if_pos h1]⟩
  · rw [if_neg h1]
    have e : wrap64 (en - at_) = en - at_ := w64 (by omega)
    rw [e]
    by_cases h2 : n > en - at_
    · exact ⟨0, false, ⟨fun h => by simp at h, fun _ => rfl, fun p p0 p1 p2 _ => hb p p0 (by omega)⟩, by rw [if_pos h2]⟩
    · exact ⟨at_, true, ⟨fun _ => ⟨hlo, by omega, by omega, hr⟩, fun h => by simp at h, fun p p0 _ _ p2 => hb p p0 (p2 rfl)⟩, by rw [if_neg h2]⟩
theorem Valid.drop {l : List S41} (h : Valid l) (n : Nat) : Valid (l.drop n) := ⟨fun r hr => h.may r (List.mem_of_mem_drop hr), h.ord.sublist (List.drop_sublist n l)⟩
theorem gap_l0 {l : List S41} (h : Valid l) {lo en n : Int} (h0 : 0 ≤ lo) (hen : en ≤ 4096) (hn : 1 ≤ n) (hlo' : lo ≤ 9223372036854775807) : ∀ (d i : Nat) (at_ : Int), i + d = l.length → lo ≤ at_ → at_ ≤ 9223372036854775807 → (∀ p, lo ≤ p → p < at_ → ¬ Room l n p) → (∀ x ∈ l.take i, x.f1 ≤ at_) →
    ∃ a is, GapOk l lo en n a is ∧ Ev (fun k => region_Gap.l0 k n at_ en l (l.length : Int) (i : Int)) (a, is) := by
  have hlen := h.len
  intro d
  induction d with
  | zero =>
    intro i at_ hi hlo hat hb ht
    rw [List.take_of_length_le (by omega)] at ht
    obtain ⟨a, is, hg, he⟩ := gap_end h0 hen hn hlo hb (fun q q0 q1 => mapOf_none (fun x hx => by have := ht x hx; omega))
    refine ⟨a, is, hg, Ev.succ ?_⟩
    simp only [region_Gap.l0]
    rw [he]
    exact Ev.neg (by omega) (Ev.now _)
  | succ d ih =>
    intro i at_ hi hlo hat hb ht
    have hil : i < l.length := by omega
    have e1 : wrap64 ((i : Int) + 1) = ((i + 1 : Nat) : Int) := by rw [w64 (by omega)]; omega
    have m := h.may l[i] (List.getElem_mem hil)
    have m0 := m.lo; have m1 := m.lt; have m2 := m.hi
    by_cases hc : l[i].f0 ≥ at_ ∧ l[i].f0 - at_ ≥ n
    · have hv := h.drop i
      rw [List.drop_eq_getElem_cons hil] at hv
      obtain ⟨_, _, hr⟩ := hv.tail
      obtain ⟨a, is, hg, he⟩ := gap_end h0 hen hn hlo hb (fun q q0 q1 => by
        rw [← List.take_append_drop i l, mapOf_append, mapOf_none (fun x hx => by have := ht x hx; omega), mapOf_none_up (fun x hx => by
          rw [List.drop_eq_getElem_cons hil] at hx
          rcases List.mem_cons.1 hx with rfl | hx
          · omega
          · have := hr x hx; omega)]
        rfl)
      refine ⟨a, is, hg, Ev.succ ?_⟩
      simp only [region_Gap.l0]
      rw [he, rd41 l i hil]
      refine Ev.pos (by omega) (Ev.pos (by omega) (Ev.pos (by omega) (Ev.pos hc.1 (Ev.pos ?_ (Ev.now _)))))
      rw [w64 (by omega)]; exact hc.2
    · obtain ⟨c, hc'⟩ : ∃ c, mx at_ l[i].f1 = c := ⟨_, rfl⟩
      have c1 : at_ ≤ c ∧ l[i].f1 ≤ c ∧ (c = at_ ∨ c = l[i].f1) := by unfold mx at hc'; split at hc' <;> omega
      obtain ⟨a, is, hg, he⟩ := ih (i + 1) c (by omega) (by omega) (by omega) (fun p p0 p1 => by
        by_cases hp : p < at_
        · exact hb p p0 hp
        · intro hroom
          have hin : ∀ q, l[i].f0 ≤ q → q < l[i].f1 → mapOf l q ≠ none := by
            intro q q0 q1 hq
            have hl2 : look l q = none := mapOf_look.1 hq
            unfold look at hl2
            rw [List.find?_eq_none] at hl2
            exact hl2 l[i] (List.getElem_mem hil) (by simpa using ⟨q0, q1⟩)
          by_cases hpr : l[i].f0 ≤ p
          · exact hin p hpr (by omega) (hroom p (Int.le_refl _) (by omega))
          · exact hin l[i].f0 (Int.le_refl _) m1 (hroom _ (by omega) (by omega))) (fun x hx => by
        rw [List.take_succ_eq_append_getElem hil] at hx
        rcases List.mem_append.1 hx with hx | hx
        · have := ht x hx; omega
        · simp at hx; subst hx; omega)
      refine ⟨a, is, hg, Ev.succ ?_⟩
      simp only [region_Gap.l0]
      rw [rd41 l i hil, e1, hc']
      refine Ev.pos (by omega) (Ev.pos (by omega) (Ev.pos (by omega) ?_))
      by_cases h1 : l[i].f0 ≥ at_
      · refine Ev.pos h1 (Ev.neg ?_ he)
        rw [w64 (by omega)]; omega
      · exact Ev.neg h1 he
theorem gap_ev {l : List S41} (h : Valid l) (low high n : Int) (hn : 1 ≤ n) (hl : low ≤ 9223372036854775807) :
    ∃ a is, GapOk l (mx low 0) (mn high 4096) n a is ∧ Ev (fun k => region_Gap.f k l low high n) (a, is) := by
  have c1 : 0 ≤ mx low 0 ∧ mx low 0 ≤ 9223372036854775807 := by unfold mx; split <;> omega
  have c2 : mn high 4096 ≤ 4096 := by unfold mn; split <;> omega
  obtain ⟨a, is, hg, he⟩ := gap_l0 h c1.1 c2 hn c1.2 l.length 0 (mx low 0) (by omega) (Int.le_refl _) c1.2 (fun p p0 p1 => by omega) (by simp)
  refine ⟨a, is, hg, ?_⟩
  unfold region_Gap.f
  exact Ev.neg (by omega) he
end Go.Proofs.Ytafmeagfockdfaa.Rg
