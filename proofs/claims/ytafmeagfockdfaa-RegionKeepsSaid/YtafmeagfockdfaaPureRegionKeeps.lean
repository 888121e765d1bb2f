/-
  RegionKeeps, over numbers and lists: for every script and every question the statement's function comes to true.
-/
import Derived.Test.YtafmeagfockdfaaOpRegionKeeps
import Derived.Test.YtafmeagfockdfaaRgAsk
import Derived.Test.YtafmeagfockdfaaRgPro
import Derived.Test.YtafmeagfockdfaaMask
namespace Go.Proofs.Ytafmeagfockdfaa.Pure
open Go.Proofs.Ytafmeagfockdfaa.Evs Go.RowKit Go.Proofs.Ytafmeagfockdfaa.Rg Go.Proofs.YtafmeagfockdfaaW.PrintWords
set_option linter.unusedVariables false

namespace Keeps
theorem small_some (a0 a1 a2 a3 : Int) (a4 : Bool) (a5 a6 a7 a8 a9 a10 : Int) : ∃ t, flyleaflaw15_Op_small.f a0 a1 a2 a3 a4 a5 a6 a7 a8 a9 a10 = some t := by
  unfold flyleaflaw15_Op_small.f
  cases a4 with
  | true => rw [if_pos rfl]; exact ⟨_, rfl⟩
  | false => rw [if_neg (by decide)]; exact ⟨_, rfl⟩
/-- What a page's key is. -/
def kT : Option S41 → Int × Int × Bool
  | some x => if x.f3 = 1 then (x.f4, x.f5, true) else (0, 0, false)
  | none => (0, 0, false)
theorem find_yes {l : List S41} (h : Valid l) {p : Int} {x : S41} (e : mapOf l p = some x) : ∃ a0 a1 a5, findT l p = (a0, a1, x.f2, x.f3, x.f4, a5, true) ∧ region_Key.f a0 a1 x.f2 x.f3 x.f4 a5 p = some (kT (some x)) := by
  unfold mapOf at e
  cases hl : Rg.look l p with
  | none => rw [hl] at e; cases e
  | some r =>
    rw [hl] at e
    injection e with e
    obtain ⟨h1, h2, h3⟩ := look_some hl
    have m := h.may r h1
    have m0 := m.lo; have m1 := m.lt; have m2 := m.hi
    refine ⟨r.f0, r.f1, r.f5, ?_, ?_⟩
    · unfold findT
      rw [hl, ← e]
      rfl
    · unfold region_Key.f kT
      rw [← e]
      show (if r.f3 = 1 then _ else _) = some (if r.f3 = 1 then (r.f4, (if r.f3 = 1 then r.f5 + p - r.f0 else r.f5), true) else (0, 0, false))
      by_cases h3' : r.f3 = 1
      · rw [if_pos h3', if_neg (by omega), if_neg (by omega), if_pos h3', if_pos h3']
        have e2 : wrap64 (wrap64 (r.f5 + p) - r.f0) = r.f5 + p - r.f0 := by
          rcases m.kd with k | k
          · rw [w64 (n := r.f5 + p) (by omega), w64 (by omega)]
          · omega
        rw [e2]
        rfl
      · rw [if_neg h3', if_neg h3']
theorem find_no {l : List S41} {p : Int} (e : mapOf l p = none) : findT l p = (0, 0, 0, 0, 0, 0, false) := by
  unfold findT
  rw [mapOf_look.1 e]
theorem key_no (p : Int) : region_Key.f 0 0 0 0 0 0 p = some (0, 0, false) := by unfold region_Key.f; rw [if_neg (by decide)]
/-- What is given. -/
structure Given (l cut pro : List S41) (fr tu q e : Int) : Prop where
  lv : Valid l
  cutv : Valid cut
  cutm : ∀ p, mapOf cut p = if fr ≤ p ∧ p < tu then none else mapOf l p
  prov : e = 0 → Valid pro ∧ ∀ p, mapOf pro p = (mapOf l p).map (fun x => if fr ≤ p ∧ p < tu then { x with f2 := q } else x)
  err : e = 0 ↔ fr < tu ∧ covT l fr tu = true
section
variable {l cut pro : List S41} {fr tu e x0 x1 x2 : Int}
/-- Behind the first two looks. -/
theorem j5_ev (g : Given l cut pro fr tu (Go.bits .and .i64 x2 7) e) {p : Int} (inn : Bool) (hin : inn = true ↔ fr ≤ p ∧ p < tu) (next : Ev (fun k => flyleaflaw15_RegionKeeps.l1 k true l fr tu cut pro e (wrap64 (p + 1)) x0 x1 x2) true)
    (o : Option S41) (ho : mapOf l p = o) (a0 a1 a2 a3 a4 a5 : Int) (x17 : Bool) (ha : match o with | some x => a2 = x.f2 ∧ a3 = x.f3 ∧ a4 = x.f4 ∧ x17 = true | none => x17 = false) :
    Ev (fun k => flyleaflaw15_RegionKeeps.j5 k true l fr tu cut pro e p x17 inn (kT o).2.2 false x0 x1 x2 a0 a1 a2 a3 a4 a5 (kT o).1 (kT o).2.1) true := by
  refine Ev.succ ?_
  simp only [flyleaflaw15_RegionKeeps.j5]
  refine Ev.neg (by decide) ?_
  by_cases he : e = 0
  · refine Ev.pos he ?_
    obtain ⟨hv, hm⟩ := g.prov he
    have hm := hm p
    rw [ho] at hm
    refine Ev.bind (find_ev hv p) ?_
    cases o with
    | none =>
      have hm : mapOf pro p = none := hm
      subst ha
      rw [find_no hm]
      refine Ev.pure (key_no p) (Ev.succ ?_)
      simp only [flyleaflaw15_RegionKeeps.j6]
      cases inn with
      | true => exact Ev.pos rfl (Ev.neg (by decide) (Ev.neg (by decide) next))
      | false => exact Ev.neg (by decide) (Ev.neg (by decide) (Ev.neg (by decide) next))
    | some x =>
      obtain ⟨rfl, rfl, rfl, rfl⟩ := ha
      cases inn with
      | true =>
        have hi := hin.1 rfl
        have hm : mapOf pro p = some { x with f2 := Go.bits .and .i64 x2 7 } := by rw [hm]; show some (if _ then _ else _) = _; rw [if_pos hi]
        obtain ⟨b0, b1, b5, h1, h2⟩ := find_yes hv hm
        rw [h1]
        refine Ev.pure h2 (Ev.succ ?_)
        simp only [flyleaflaw15_RegionKeeps.j6]
        refine Ev.pos (by trivial) (Ev.neg (by simp) (Ev.pos (by trivial) (Ev.pos (by trivial) (Ev.pos (by trivial) (Ev.neg ?_ (Ev.neg ?_ next))))))
        · show ¬ ((!((kT (some x)).1 == (kT (some x)).1) || !((kT (some x)).2.1 == (kT (some x)).2.1)) = true)
          simp
        · show ¬ (((kT (some x)).2.2 != (kT (some x)).2.2) = true)
          simp
      | false =>
        have hi : ¬ (fr ≤ p ∧ p < tu) := fun x => by have := hin.2 x; cases this
        have hm : mapOf pro p = some x := by rw [hm]; show some (if _ then _ else _) = _; rw [if_neg hi]
        obtain ⟨b0, b1, b5, h1, h2⟩ := find_yes hv hm
        rw [h1]
        refine Ev.pure h2 (Ev.succ ?_)
        simp only [flyleaflaw15_RegionKeeps.j6]
        refine Ev.neg (by decide) (Ev.neg (by simp) (Ev.pos (by trivial) (Ev.pos (by trivial) (Ev.pos (by trivial) (Ev.neg ?_ (Ev.neg ?_ next))))))
        · simp
        · simp
  · exact Ev.neg he next
theorem l1_ev (g : Given l cut pro fr tu (Go.bits .and .i64 x2 7) e) : ∀ (d p : Nat), p + d = 70 → Ev (fun k => flyleaflaw15_RegionKeeps.l1 k true l fr tu cut pro e (p : Int) x0 x1 x2) true := by
  intro d
  induction d with
  | zero =>
    intro p hp
    refine Ev.succ ?_
    simp only [flyleaflaw15_RegionKeeps.l1]
    refine Ev.neg (by omega) (Ev.pos trivial ?_)
    have he := g.err
    by_cases hft : fr < tu
    · refine Ev.pos hft (Ev.bind (covers_ev l fr tu (by have := g.lv.len; omega)) ?_)
      refine Ev.some ?_
      cases hc : covT l fr tu with
      | true => rw [he.2 ⟨hft, hc⟩]; rfl
      | false =>
        have : ¬ e = 0 := fun x => by have := (he.1 x).2; rw [hc] at this; cases this
        simp [this]
    · refine Ev.neg hft (Ev.some ?_)
      have : ¬ e = 0 := fun x => hft (he.1 x).1
      simp [this]
  | succ d ih =>
    intro p hp
    have e1 : wrap64 ((p : Int) + 1) = ((p + 1 : Nat) : Int) := by rw [w64 (by omega)]; omega
    have next := ih (p + 1) (by omega)
    rw [← e1] at next
    refine Ev.succ ?_
    simp only [flyleaflaw15_RegionKeeps.l1]
    refine Ev.pos (by omega) (Ev.bind (find_ev g.lv (p : Int)) (Ev.bind (find_ev g.cutv (p : Int)) ?_))
    have hc := g.cutm (p : Int)
    have main : ∀ inn : Bool, (inn = true ↔ fr ≤ (p : Int) ∧ (p : Int) < tu) → Ev (fun k => flyleaflaw15_RegionKeeps.j3 k true l fr tu cut pro e (p : Int) (findT l p).2.2.2.2.2.2 (findT cut p).2.2.2.2.2.2 inn x0 x1 x2 (findT l p).1 (findT l p).2.1 (findT l p).2.2.1 (findT l p).2.2.2.1 (findT l p).2.2.2.2.1 (findT l p).2.2.2.2.2.1 (findT cut p).1 (findT cut p).2.1 (findT cut p).2.2.1 (findT cut p).2.2.2.1 (findT cut p).2.2.2.2.1 (findT cut p).2.2.2.2.2.1) true := by
      intro inn hin
      refine Ev.succ ?_
      simp only [flyleaflaw15_RegionKeeps.j3]
      cases inn with
      | true =>
        have hi := hin.1 rfl
        rw [if_pos hi] at hc
        rw [find_no hc]
        refine Ev.pos rfl (Ev.neg (by decide) (Ev.succ ?_))
        simp only [flyleaflaw15_RegionKeeps.j4]
        refine Ev.neg (by decide) ?_
        cases ho : mapOf l (p : Int) with
        | none =>
          rw [find_no ho]
          refine Ev.pure (key_no _) (Ev.pure (key_no _) (Ev.pos trivial ?_))
          exact j5_ev g true hin next none ho _ _ _ _ _ _ false rfl
        | some x =>
          obtain ⟨b0, b1, b5, h1, h2⟩ := find_yes g.lv ho
          rw [h1]
          refine Ev.pure h2 (Ev.pure (key_no _) (Ev.pos trivial ?_))
          exact j5_ev g true hin next (some x) ho _ _ _ _ _ _ true ⟨rfl, rfl, rfl, rfl⟩
      | false =>
        have hi : ¬ (fr ≤ (p : Int) ∧ (p : Int) < tu) := fun x => by have := hin.2 x; cases this
        rw [if_neg hi] at hc
        refine Ev.neg (by decide) ?_
        cases ho : mapOf l (p : Int) with
        | none =>
          rw [ho] at hc
          rw [find_no hc, find_no ho]
          refine Ev.neg (by decide) (Ev.neg (by decide) (Ev.succ ?_))
          simp only [flyleaflaw15_RegionKeeps.j4]
          refine Ev.neg (by decide) ?_
          refine Ev.pure (key_no _) (Ev.pure (key_no _) (Ev.neg (by decide) (Ev.neg (by decide) ?_)))
          exact j5_ev g false hin next none ho _ _ _ _ _ _ false rfl
        | some x =>
          rw [ho] at hc
          obtain ⟨b0, b1, b5, h1, h2⟩ := find_yes g.lv ho
          obtain ⟨c0, c1, c5, h3, h4⟩ := find_yes g.cutv hc
          rw [h1, h3]
          refine Ev.neg (by simp) (Ev.pos rfl (Ev.pos rfl (Ev.pos rfl ?_)))
          simp only [bne_self_eq_false]
          refine Ev.succ ?_
          simp only [flyleaflaw15_RegionKeeps.j4]
          refine Ev.neg (by decide) ?_
          refine Ev.pure h2 (Ev.pure h4 (Ev.neg (by decide) (Ev.neg (by simp) ?_)))
          simp only [bne_self_eq_false]
          exact j5_ev g false hin next (some x) ho _ _ _ _ _ _ true ⟨rfl, rfl, rfl, rfl⟩
    by_cases h1 : (p : Int) ≥ fr
    · refine Ev.pos h1 (main _ ?_)
      rw [decide_eq_true_iff]; omega
    · refine Ev.neg h1 (main false ?_)
      constructor
      · intro x; cases x
      · omega
end
theorem script_ev (s : List S69) (a b c : Int) : ∀ (d i : Nat) (l : List S41), i + d = min 10 s.length → Valid l → Ev (fun k => flyleaflaw15_RegionKeeps.l0 k s true l (i : Int) a b c) true := by
  have fin : ∀ (i : Int) (l : List S41), Valid l → Ev (fun k => flyleaflaw15_RegionKeeps.j1 k s true l i false a b c) true := by
    intro i l h
    refine Ev.succ ?_
    simp only [flyleaflaw15_RegionKeeps.j1]
    refine Ev.neg (by decide) ?_
    have hl := h.len
    generalize Go.bits .and .i64 a 63 = fr
    generalize Go.bits .and .i64 b 63 = tu
    have hq : 0 ≤ Go.bits .and .i64 c 7 ∧ Go.bits .and .i64 c 7 ≤ 7 := by rw [i64_and7]; omega
    obtain ⟨c1, c2⟩ := cut_ok h fr tu
    refine Ev.pure (a := l.foldl (cutT fr tu) []) (by unfold region_Cut.f; rw [if_pos (by omega)]) ?_
    by_cases hft : fr < tu
    · cases hc : covT l fr tu with
      | true =>
        refine Ev.pure (a := (l.foldl (proT fr tu (Go.bits .and .i64 c 7)) [], 0)) (by unfold region_Protect.f; rw [if_pos (by omega), if_neg (by omega), hc, if_pos rfl]) ?_
        obtain ⟨p1, p2⟩ := pro_ok h fr tu _ hq.1 hq.2
        exact l1_ev ⟨h, c1, c2, fun _ => ⟨p1, p2⟩, ⟨fun _ => ⟨hft, hc⟩, fun _ => rfl⟩⟩ 70 0 (by omega)
      | false =>
        refine Ev.pure (a := ([], 12)) (by unfold region_Protect.f; rw [if_pos (by omega), if_neg (by omega), hc, if_neg (by decide)]) ?_
        exact l1_ev ⟨h, c1, c2, fun x => absurd x (by decide), ⟨fun x => absurd x (by decide), fun x => by rw [hc] at x; cases x.2⟩⟩ 70 0 (by omega)
    · refine Ev.pure (a := ([], 1)) (by unfold region_Protect.f; rw [if_pos (by omega), if_pos (by omega)]) ?_
      exact l1_ev ⟨h, c1, c2, fun x => absurd x (by decide), ⟨fun x => absurd x (by decide), fun x => absurd x.1 hft⟩⟩ 70 0 (by omega)
  intro d
  induction d with
  | zero =>
    intro i l hi h
    refine Ev.succ ?_
    simp only [flyleaflaw15_RegionKeeps.l0]
    by_cases h1 : (i : Int) < (s.length : Int)
    · refine Ev.pos h1 ?_
      rw [decide_eq_false (by omega)]
      exact fin _ l h
    · exact Ev.neg h1 (fin _ l h)
  | succ d ih =>
    intro i l hi h
    have e1 : wrap64 ((i : Int) + 1) = ((i + 1 : Nat) : Int) := by rw [w64 (by omega)]; omega
    refine Ev.succ ?_
    simp only [flyleaflaw15_RegionKeeps.l0]
    refine Ev.pos (by omega) ?_
    rw [decide_eq_true (by omega)]
    refine Ev.succ ?_
    simp only [flyleaflaw15_RegionKeeps.j1]
    rw [e1]
    refine Ev.pos trivial (Ev.pos (by omega) (Ev.pos (by omega) ?_))
    obtain ⟨t, ht⟩ := small_some ((rd_T69 s (i : Int)).f0) ((rd_T69 s (i : Int)).f1) ((rd_T69 s (i : Int)).f2) ((rd_T69 s (i : Int)).f3) ((rd_T69 s (i : Int)).f4) ((rd_T69 s (i : Int)).f5.f0) ((rd_T69 s (i : Int)).f5.f1) ((rd_T69 s (i : Int)).f5.f2) ((rd_T69 s (i : Int)).f5.f3) ((rd_T69 s (i : Int)).f5.f4) ((rd_T69 s (i : Int)).f5.f5)
    refine Ev.pure ht ?_
    obtain ⟨l', e, hv, he⟩ := opof_ev h t.1 t.2.1 t.2.2.1 t.2.2.2.1 t.2.2.2.2.1 t.2.2.2.2.2.1 t.2.2.2.2.2.2.1 t.2.2.2.2.2.2.2.1 t.2.2.2.2.2.2.2.2.1 t.2.2.2.2.2.2.2.2.2.1 t.2.2.2.2.2.2.2.2.2.2
    refine Ev.bind he ?_
    by_cases h0 : e = 0
    · exact Ev.pos h0 (ih (i + 1) l' (by omega) (hv h0))
    · exact Ev.neg h0 (ih (i + 1) l (by omega) h)
end Keeps
theorem RegionKeeps : Rg.RegionKeeps.Said := by
  intro s q _ _
  refine Ev.rounds ?_
  unfold flyleaflaw15_RegionKeeps.f
  exact Ev.bind awake_ev (Keeps.script_ev s q.f0 q.f1 q.f2 (min 10 s.length) 0 [] (by omega) Valid.nil)
end Go.Proofs.Ytafmeagfockdfaa.Pure
