/-
  What place.All comes to, as a total function.
-/
import Derived.Test.YtafmeagfockdfaaPlT
import Derived.Test.YtafmeagfockdfaaPl3
namespace Go.Proofs.Ytafmeagfockdfaa.Pl
open Go.RowKit Go.Proofs.YtafmeagfockdfaaW.PrintWords Go.Proofs.YtafmeagfockdfaaW.PrintLast Go.Proofs.YtafmeagfockdfaaW.PrintMore

def okW (x : S34) : Bool := decide (1 ≤ x.f0 ∧ x.f0 ≤ 1099511627776 ∧ 0 ≤ x.f1 ∧ x.f1 ≤ 1099511627776)
def putT (l : List S34) (low high : Int) (at_ : List Int) (x : S34) : Option Int :=
  if x.f1 ≠ 0 ∧ Int.tmod x.f1 64 = 0 ∧ fitsT l at_ low high x.f1 (rndT x.f0) = true then some x.f1
  else if (freeT l at_ low high x.f0).2 = true then some (freeT l at_ low high x.f0).1 else none
def goT (l : List S34) (low high : Int) : List S34 → List Int → Option (List Int)
  | [], at_ => some at_
  | x :: xs, at_ => (putT l low high at_ x).bind fun p => goT l low high xs (at_ ++ [p])
def allT (l : List S34) (low high : Int) : List Int × Int :=
  if roomT low high = true then (if l.all okW = true then ((goT l low high l []).map fun a => (a, (0 : Int))).getD ([], 18) else ([], 1)) else ([], 1)
def l1T (l : List S34) (low high : Int) (xs : List S34) (at_ : List Int) : List Int × Int := ((goT l low high xs at_).map fun a => (a, (0 : Int))).getD ([], 18)
theorem wrap_nat {i : Nat} (h : i ≤ 1000000000000000) : wrap64 ((i : Int) + 1) = ((i + 1 : Nat) : Int) := by unfold wrap64; omega
theorem all_l1 (l : List S34) (low high : Int) (hl : l.length ≤ 8796093022208) (d : Nat) : ∀ (i : Nat) (at_ : List Int), at_.length = i → l.length = i + d →
    Ev (fun k => place_All.l1 k l low high at_ l (l.length : Int) (i : Int)) (l1T l low high (l.drop i) at_) := by
  induction d with
  | zero =>
    intro i at_ ha h
    refine Ev.succ ?_
    simp only [place_All.l1]
    refine Ev.neg (by omega) (Ev.some ?_)
    rw [List.drop_eq_nil_of_le (by omega)]
    rfl
  | succ d ih =>
    intro i at_ ha h
    have h1 : i < l.length := by omega
    refine Ev.succ ?_
    simp only [place_All.l1]
    refine Ev.pos (by omega) (Ev.pos (by omega) (Ev.pos (by omega) ?_))
    rw [rdT34_eq h1, List.drop_eq_getElem_cons h1]
    generalize hx : l[i] = x
    have key : ∀ b : Bool, (b = false ↔ (x.f1 ≠ 0 ∧ Int.tmod x.f1 64 = 0 ∧ fitsT l at_ low high x.f1 (rndT x.f0) = true)) →
        Ev (fun k => place_All.j2 k l low high at_ x.f1 l (l.length : Int) (i : Int) b x.f0 x.f1) (l1T l low high (x :: l.drop (i + 1)) at_) := by
      intro b hb
      have hnext : ∀ p, putT l low high at_ x = some p → Ev (fun k => place_All.l1 k l low high (at_ ++ [p]) l (l.length : Int) (wrap64 ((i : Int) + 1))) (l1T l low high (x :: l.drop (i + 1)) at_) := by
        intro p hp
        rw [wrap_nat (by omega)]
        refine Ev.eq (ih (i + 1) (at_ ++ [p]) (by simp [ha]) (by omega)) ?_
        simp only [l1T, goT, hp, Option.bind_some]
      refine Ev.succ ?_
      simp only [place_All.j2]
      cases b with
      | false =>
        have hp : putT l low high at_ x = some x.f1 := by unfold putT; rw [if_pos (hb.1 rfl)]
        simp only [if_neg (show ¬ (false = true) by decide)]
        exact Ev.pos (by omega) (hnext _ hp)
      | true =>
        have hn : ¬ (x.f1 ≠ 0 ∧ Int.tmod x.f1 64 = 0 ∧ fitsT l at_ low high x.f1 (rndT x.f0) = true) := fun h => by have := hb.2 h; cases this
        simp only [if_true]
        refine Ev.pure rfl ?_
        by_cases hf : (freeT l at_ low high x.f0).2 = true
        · have hp : putT l low high at_ x = some (freeT l at_ low high x.f0).1 := by unfold putT; rw [if_neg hn, if_pos hf]
          exact Ev.pos hf (Ev.pos (by omega) (hnext _ hp))
        · have hp : putT l low high at_ x = none := by unfold putT; rw [if_neg hn, if_neg hf]
          refine Ev.neg hf (Ev.some ?_)
          simp [l1T, goT, hp]
    by_cases c1 : x.f1 = 0
    · exact Ev.pos c1 (key true (by simp [c1]))
    · refine Ev.neg c1 ?_
      by_cases c2 : Int.tmod x.f1 64 = 0
      · refine Ev.pos c2 (Ev.bind (round_ev _) (Ev.bind (fits_ev _ _ _ _ _ _ (by omega)) ?_))
        exact key _ (by simp [c1, c2])
      · exact Ev.neg c2 (key true (by simp [c2]))
theorem all_l0 (l : List S34) (low high : Int) (hl : l.length ≤ 8796093022208) (d : Nat) : ∀ (i : Nat), l.length = i + d → (l.take i).all okW = true →
    Ev (fun k => place_All.l0 k l low high l (l.length : Int) (i : Int)) (if l.all okW = true then l1T l low high l [] else ([], 1)) := by
  induction d with
  | zero =>
    intro i h ha
    have e : l.take i = l := List.take_of_length_le (by omega)
    rw [e] at ha
    refine Ev.succ ?_
    simp only [place_All.l0]
    refine Ev.neg (by omega) ?_
    rw [if_pos ha]
    exact all_l1 l low high hl l.length 0 [] rfl (by omega)
  | succ d ih =>
    intro i h ha
    have h1 : i < l.length := by omega
    refine Ev.succ ?_
    simp only [place_All.l0]
    refine Ev.pos (by omega) (Ev.pos (by omega) (Ev.pos (by omega) ?_))
    rw [rdT34_eq h1]
    have bad : okW l[i] = false → (if l.all okW = true then l1T l low high l [] else ([], 1)) = (([] : List Int), (1 : Int)) := by
      intro hb
      rw [if_neg]
      intro hall
      rw [List.all_eq_true] at hall
      have := hall l[i] (List.getElem_mem h1)
      rw [hb] at this; cases this
    by_cases c1 : l[i].f0 < 1
    · exact Ev.pos c1 (Ev.some (bad (by simp only [okW]; exact decide_eq_false (by omega))).symm)
    · refine Ev.neg c1 ?_
      by_cases c2 : l[i].f0 > 1099511627776
      · exact Ev.pos c2 (Ev.some (bad (by simp only [okW]; exact decide_eq_false (by omega))).symm)
      · refine Ev.neg c2 ?_
        by_cases c3 : l[i].f1 < 0
        · exact Ev.pos c3 (Ev.some (bad (by simp only [okW]; exact decide_eq_false (by omega))).symm)
        · refine Ev.neg c3 ?_
          by_cases c4 : l[i].f1 > 1099511627776
          · exact Ev.pos c4 (Ev.some (bad (by simp only [okW]; exact decide_eq_false (by omega))).symm)
          · refine Ev.neg c4 ?_
            rw [wrap_nat (by omega)]
            refine ih (i + 1) (by omega) ?_
            rw [List.take_succ_eq_append_getElem h1, List.all_append, ha]
            have : okW l[i] = true := by simp only [okW]; exact decide_eq_true (by omega)
            simp [this]
theorem all_ev (l : List S34) (low high : Int) (hl : l.length ≤ 8796093022208) : Ev (fun k => place_All.f k l low high) (allT l low high) := by
  unfold place_All.f allT
  refine Ev.pure (room_eq low high) ?_
  by_cases c : roomT low high = true
  · rw [if_pos c]
    exact Ev.pos c (all_l0 l low high hl l.length 0 (by omega) rfl)
  · rw [if_neg c]
    exact Ev.neg c (Ev.some rfl)
end Go.Proofs.Ytafmeagfockdfaa.Pl
