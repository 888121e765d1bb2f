/-
  RegionGaps, over numbers and lists: for every script and every question the statement's function comes to true.
-/
import Derived.Test.YtafmeagfockdfaaOpRegionGaps
import Derived.Test.YtafmeagfockdfaaRgAsk
import Derived.Test.YtafmeagfockdfaaMask
namespace Go.Proofs.Ytafmeagfockdfaa.Pure
open Go.Proofs.Ytafmeagfockdfaa.Evs Go.RowKit Go.Proofs.Ytafmeagfockdfaa.Rg Go.Proofs.YtafmeagfockdfaaW.PrintWords
set_option linter.unusedVariables false

namespace Gaps
theorem small_some (a0 a1 a2 a3 : Int) (a4 : Bool) (a5 a6 a7 a8 a9 a10 : Int) : ∃ t, flyleaflaw15_Op_small.f a0 a1 a2 a3 a4 a5 a6 a7 a8 a9 a10 = some t := by
  unfold flyleaflaw15_Op_small.f
  cases a4 with
  | true => rw [if_pos rfl]; exact ⟨_, rfl⟩
  | false => rw [if_neg (by decide)]; exact ⟨_, rfl⟩
theorem l2_ev {l : List S41} (h : Valid l) (low high n at_ p : Int) (is : Bool) (hp : 0 ≤ p ∧ p + n ≤ 128) (hn : 1 ≤ n ∧ n ≤ 16)
    (hfree : Room l n p ↔ is = true ∧ p = at_) (next : Ev (fun k => flyleaflaw15_RegionGaps.l1 k true l low high n at_ is (p + 1)) true) :
    ∀ (d : Nat) (q : Int) (free : Bool), p ≤ q → q + d = p + n → (free = true ↔ ∀ x, p ≤ x → x < q → mapOf l x = none) →
      Ev (fun k => flyleaflaw15_RegionGaps.l2 k true l low high n at_ is p free q) true := by
  intro d
  induction d with
  | zero =>
    intro q free h0 hd hf
    have e1 : wrap64 (p + n) = p + n := w64 (by omega)
    have e2 : wrap64 (p + 1) = p + 1 := w64 (by omega)
    have hf2 : free = true ↔ is = true ∧ p = at_ := by
      rw [hf, ← hfree]
      unfold Room
      have : q = p + n := by omega
      rw [this]
    refine Ev.succ ?_
    simp only [flyleaflaw15_RegionGaps.l2]
    rw [e1, e2]
    refine Ev.neg (by omega) ?_
    cases is with
    | true =>
      refine Ev.pos rfl (Ev.neg ?_ next)
      cases free with
      | true => have := (hf2.1 rfl).2; simp [this]
      | false =>
        have : ¬ p = at_ := fun e => by have := hf2.2 ⟨rfl, e⟩; cases this
        simp [this]
    | false =>
      refine Ev.neg (by decide) (Ev.neg ?_ next)
      cases free with
      | true => have := (hf2.1 rfl).1; cases this
      | false => decide
  | succ d ih =>
    intro q free h0 hd hf
    have e1 : wrap64 (p + n) = p + n := w64 (by omega)
    have e3 : wrap64 (q + 1) = q + 1 := w64 (by omega)
    refine Ev.succ ?_
    simp only [flyleaflaw15_RegionGaps.l2]
    rw [e1, e3]
    refine Ev.pos (by omega) (Ev.bind (find_ev h q) ?_)
    have hi := findT_is l q
    cases free with
    | true =>
      refine Ev.pos rfl (ih (q + 1) _ (by omega) (by omega) ?_)
      rw [hi]
      constructor
      · intro hx x x0 x1
        by_cases hxq : x = q
        · subst hxq
          cases e : mapOf l x with
          | none => rfl
          | some y => rw [e] at hx; simp at hx
        · exact (hf.1 rfl) x x0 (by omega)
      · intro hx
        rw [hx q h0 (by omega)]; rfl
    | false =>
      refine Ev.neg (by decide) (ih (q + 1) _ (by omega) (by omega) ?_)
      constructor
      · intro x; cases x
      · intro hx
        exact hf.2 (fun x x0 x1 => hx x x0 (by omega))
theorem l1_ev {l : List S41} (h : Valid l) (low high n at_ : Int) (is : Bool) (hl : 0 ≤ low ∧ low ≤ 63) (hh : 0 ≤ high ∧ high ≤ 127) (hn : 1 ≤ n ∧ n ≤ 16) (g : GapOk l low high n at_ is) :
    ∀ (d : Nat) (p : Int), low ≤ p → 200 - p = d → Ev (fun k => flyleaflaw15_RegionGaps.l1 k true l low high n at_ is p) true := by
  have fin : ∀ p, Ev (fun k => flyleaflaw15_RegionGaps.j3 k true l low high n at_ is p false) true := by
    intro p
    refine Ev.succ ?_
    simp only [flyleaflaw15_RegionGaps.j3]
    refine Ev.neg (by decide) (Ev.pos trivial ?_)
    cases hi : is with
    | true =>
      obtain ⟨g1, g2, g3, g4⟩ := g.yes hi
      refine Ev.pos rfl (Ev.pos g1 ?_)
      rw [w64 (by omega), decide_eq_true (by omega)]
      exact Ev.now _
    | false =>
      exact Ev.neg (by decide) (Ev.pos (g.no hi) (Ev.now _))
  intro d
  induction d with
  | zero =>
    intro p h0 hd
    refine Ev.succ ?_
    simp only [flyleaflaw15_RegionGaps.l1]
    rw [w64 (by omega)]
    exact Ev.neg (by omega) (fin p)
  | succ d ih =>
    intro p h0 hd
    refine Ev.succ ?_
    simp only [flyleaflaw15_RegionGaps.l1]
    rw [w64 (by omega)]
    by_cases h1 : p + n ≤ high
    · refine Ev.pos h1 ?_
      have go : (is = true → p ≤ at_) → Ev (fun k => flyleaflaw15_RegionGaps.j3 k true l low high n at_ is p true) true := by
        intro hp
        refine Ev.succ ?_
        simp only [flyleaflaw15_RegionGaps.j3]
        refine Ev.pos trivial (l2_ev h low high n at_ p is ⟨by omega, by omega⟩ hn ?_ (ih (p + 1) (by omega) (by omega)) n.toNat p true (Int.le_refl _) (by omega) ⟨fun _ x x0 x1 => by omega, fun _ => rfl⟩)
        constructor
        · intro hroom
          by_cases hi : is = true
          · refine ⟨hi, ?_⟩
            by_cases e : p = at_
            · exact e
            · exact absurd hroom (g.low p h0 (by omega) (by omega) (fun _ => by have := hp hi; omega))
          · exact absurd hroom (g.low p h0 (by omega) (by omega) (fun x => absurd x hi))
        · rintro ⟨hi, e⟩
          rw [e]
          exact (g.yes hi).2.2.2
      cases hi : is with
      | true =>
        refine Ev.pos rfl ?_
        rw [hi] at go fin
        by_cases h2 : p ≤ at_
        · rw [decide_eq_true h2]; exact go (fun _ => h2)
        · rw [decide_eq_false h2]; exact fin p
      | false =>
        rw [hi] at go
        exact Ev.neg (by decide) (go (fun x => by cases x))
    · exact Ev.neg h1 (fin p)
theorem script_ev (s : List S69) (a b c : Int) : ∀ (d i : Nat) (l : List S41), i + d = min 10 s.length → Valid l → Ev (fun k => flyleaflaw15_RegionGaps.l0 k s true l (i : Int) a b c) true := by
  have fin : ∀ (i : Int) (l : List S41), Valid l → Ev (fun k => flyleaflaw15_RegionGaps.j1 k s true l i false a b c) true := by
    intro i l h
    refine Ev.succ ?_
    simp only [flyleaflaw15_RegionGaps.j1]
    refine Ev.neg (by decide) ?_
    rw [i64_and63, i64_and127, i64_and15]
    have e : wrap64 (1 + c % 16) = 1 + c % 16 := w64 (by omega)
    rw [e]
    obtain ⟨at_, is, hg, he⟩ := gap_ev h (a % 64) (b % 128) (1 + c % 16) (by omega) (by omega)
    have e1 : mx (a % 64) 0 = a % 64 := by unfold mx; split <;> omega
    have e2 : mn (b % 128) 4096 = b % 128 := by unfold mn; split <;> omega
    rw [e1, e2] at hg
    exact Ev.bind he (l1_ev h (a % 64) (b % 128) (1 + c % 16) at_ is ⟨by omega, by omega⟩ ⟨by omega, by omega⟩ ⟨by omega, by omega⟩ hg (200 - a % 64).toNat (a % 64) (Int.le_refl _) (by omega))
  intro d
  induction d with
  | zero =>
    intro i l hi h
    refine Ev.succ ?_
    simp only [flyleaflaw15_RegionGaps.l0]
    by_cases h1 : (i : Int) < (s.length : Int)
    · refine Ev.pos h1 ?_
      rw [decide_eq_false (by omega)]
      exact fin _ l h
    · exact Ev.neg h1 (fin _ l h)
  | succ d ih =>
    intro i l hi h
    have e1 : wrap64 ((i : Int) + 1) = ((i + 1 : Nat) : Int) := by rw [w64 (by omega)]; omega
    refine Ev.succ ?_
    simp only [flyleaflaw15_RegionGaps.l0]
    refine Ev.pos (by omega) ?_
    rw [decide_eq_true (by omega)]
    refine Ev.succ ?_
    simp only [flyleaflaw15_RegionGaps.j1]
    rw [e1]
    refine Ev.pos trivial (Ev.pos (by omega) (Ev.pos (by omega) ?_))
    obtain ⟨t, ht⟩ := small_some ((rd_T69 s (i : Int)).f0) ((rd_T69 s (i : Int)).f1) ((rd_T69 s (i : Int)).f2) ((rd_T69 s (i : Int)).f3) ((rd_T69 s (i : Int)).f4) ((rd_T69 s (i : Int)).f5.f0) ((rd_T69 s (i : Int)).f5.f1) ((rd_T69 s (i : Int)).f5.f2) ((rd_T69 s (i : Int)).f5.f3) ((rd_T69 s (i : Int)).f5.f4) ((rd_T69 s (i : Int)).f5.f5)
    refine Ev.pure ht ?_
    obtain ⟨l', e, hv, he⟩ := opof_ev h t.1 t.2.1 t.2.2.1 t.2.2.2.1 t.2.2.2.2.1 t.2.2.2.2.2.1 t.2.2.2.2.2.2.1 t.2.2.2.2.2.2.2.1 t.2.2.2.2.2.2.2.2.1 t.2.2.2.2.2.2.2.2.2.1 t.2.2.2.2.2.2.2.2.2.2
    refine Ev.bind he ?_
    by_cases h0 : e = 0
    · exact Ev.pos h0 (ih (i + 1) l' (by omega) (hv h0))
    · exact Ev.neg h0 (ih (i + 1) l (by omega) h)
end Gaps
theorem RegionGaps : Rg.RegionGaps.Said := by
  intro s q _ _
  refine Ev.rounds ?_
  unfold flyleaflaw15_RegionGaps.f
  exact Ev.bind awake_ev (Gaps.script_ev s q.f0 q.f1 q.f2 (min 10 s.length) 0 [] (by omega) Valid.nil)
end Go.Proofs.Ytafmeagfockdfaa.Pure
