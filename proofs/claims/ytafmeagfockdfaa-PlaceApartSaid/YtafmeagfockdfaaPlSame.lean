/-
  What flyleafref13.Same and the example of the chapter come to.
-/
import Derived.Test.YtafmeagfockdfaaPlAll
namespace Go.Proofs.Ytafmeagfockdfaa.Pl
open Go.RowKit Go.Proofs.YtafmeagfockdfaaW.PrintWords Go.Proofs.YtafmeagfockdfaaW.PrintLast Go.Proofs.YtafmeagfockdfaaW.PrintMore

theorem same_loop (a b : List Int) (hl : a.length = b.length) (hm : a.length ≤ 1000000000000000) (d : Nat) : ∀ i : Nat, a.length = i + d →
    Ev (fun k => flyleafref13_Same.l0 k a b (i : Int)) (decide (a.drop i = b.drop i)) := by
  induction d with
  | zero =>
    intro i h
    refine Ev.succ ?_
    simp only [flyleafref13_Same.l0]
    refine Ev.neg (by omega) (Ev.some ?_)
    rw [List.drop_eq_nil_of_le (by omega), List.drop_eq_nil_of_le (by omega)]; rfl
  | succ d ih =>
    intro i h
    have h1 : i < a.length := by omega
    have h2 : i < b.length := by omega
    refine Ev.succ ?_
    simp only [flyleafref13_Same.l0]
    refine Ev.pos (by omega) (Ev.pos (by omega) (Ev.pos (by omega) ?_))
    have e1 : a.drop i = a[i] :: a.drop (i + 1) := List.drop_eq_getElem_cons h1
    have e2 : b.drop i = b[i] :: b.drop (i + 1) := List.drop_eq_getElem_cons h2
    rw [rd_eq h1, rd_eq h2, e1, e2]
    by_cases c : a[i] = b[i]
    · refine Ev.pos c ?_
      rw [wrap_nat (by omega)]
      exact Ev.eq (ih (i + 1) (by omega)) (decide_eq_decide.2 ⟨fun h => by rw [c, h], fun h => (List.cons.inj h).2⟩)
    · exact Ev.neg c (Ev.some (decide_eq_false (fun h => c (List.cons.inj h).1)).symm)
theorem same_ev (a b : List Int) (hm : a.length ≤ 1000000000000000) : Ev (fun k => flyleafref13_Same.f k a b) (decide (a = b)) := by
  unfold flyleafref13_Same.f
  by_cases h : a.length = b.length
  · exact Ev.pos (by omega) (same_loop a b h hm a.length 0 (by omega))
  · refine Ev.neg (by omega) (Ev.some ?_)
    rw [decide_eq_false]; intro e; exact h (by rw [e])
theorem awake_ev : Ev (fun k => flyleaflaw13_awake.f k) true := by
  unfold flyleaflaw13_awake.f
  have e : allT [(⟨100, 128⟩ : S34), (⟨64, 128⟩ : S34), (⟨64, 0⟩ : S34)] 0 4096 = ([128, 0, 64], 0) := by decide +kernel
  refine Ev.bind (Ev.eq (all_ev _ 0 4096 (by simp)) e) ?_
  refine Ev.bind (same_ev _ _ (by simp)) ?_
  exact Ev.pos (by decide) (Ev.some rfl)
end Go.Proofs.Ytafmeagfockdfaa.Pl
