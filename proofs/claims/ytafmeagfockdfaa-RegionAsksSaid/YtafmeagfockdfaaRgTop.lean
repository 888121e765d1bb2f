/-
  region.Add, Cut, Protect, called with any row of fewer than a million regions: they return what the functions of RgT tell.
-/
import Derived.Test.YtafmeagfockdfaaRgAdd
import Derived.Test.YtafmeagfockdfaaRgCut
import Derived.Test.YtafmeagfockdfaaRgPro
namespace Go.Proofs.Ytafmeagfockdfaa.Rg
open Go.Proofs.Ytafmeagfockdfaa.Evs Go.RowKit Go.Proofs.YtafmeagfockdfaaW.PrintWords Go.Proofs.YtafmeagfockdfaaW.PrintLast Go.Proofs.YtafmeagfockdfaaW.PrintMore
set_option linter.unusedVariables false
set_option linter.unusedSimpArgs false

set_option maxHeartbeats 2000000 in
set_option maxRecDepth 100000 in
theorem add_no (A0 : Option Addr) (c0 : Nat) (l0 : List S41) (r : S41) (w : World) (hm : mayT r = false) :
    Calls Try.prog 24 #[.slice A0 l0.length c0, .agg #[.int .i64 r.f0, .int .i64 r.f1, .int .i64 r.f2, .int .i64 r.f3, .int .i64 r.f4, .int .i64 r.f5]] w fun e w' => e = .returned (.tuple #[.slice none 0 0, .int .i64 1]) ∧ Below w.heap.size w w' := by
  have HM := Aside0.mk ((may_eq 0 r).trans (congrArg some hm))
  clear hm
  go_enter Try.func24, Try.ntmps24
  go_wp2_with (first | ((with_reducible refine gate_dst (N := 3) rfl ?_); refine box_event ?hg (N := 3) ?hd (cs := #[.int .i64 r.f0, .int .i64 r.f1, .int .i64 r.f2, .int .i64 r.f3, .int .i64 r.f4, .int .i64 r.f5]) (t := 41) ?hr ?_; (case hd => rfl); (case hg => rfl); (case hr => first | (go_simp; done) | (go_simp; rfl)); intro gr hgr w1 hbox hb1; have BR := Aside0.mk hbox; have HW := Aside0.mk hb1; have GR := Aside0.mk hgr; clear hbox hb1 hgr; have hr0 := (blk_cell BR.out 0).trans (rfl : _ = some (Value.int .i64 (r).f0)); have hr1 := (blk_cell BR.out 1).trans (rfl : _ = some (Value.int .i64 (r).f1)); have hr2 := (blk_cell BR.out 2).trans (rfl : _ = some (Value.int .i64 (r).f2)); have hr3 := (blk_cell BR.out 3).trans (rfl : _ = some (Value.int .i64 (r).f3)); have hr4 := (blk_cell BR.out 4).trans (rfl : _ = some (Value.int .i64 (r).f4)); have hr5 := (blk_cell BR.out 5).trans (rfl : _ = some (Value.int .i64 (r).f5))))
  refine (region_may.calls 1 _ _ _ _ _ _ _ _ HM.out).mono ?_
  rintro e w2 ⟨rfl, hb2⟩
  have HW2 := Aside0.mk (HW.out.trans (hb2.mono HW.out.size))
  clear hb2 hr0 hr1 hr2 hr3 hr4 hr5
  go_wp2
  go_ret2
  exact ⟨rfl, HW2.out⟩

theorem region_Add.calls (A0 : Option Addr) (c0 : Nat) (l0 : List (S41)) (a1_0 : Int) (a1_1 : Int) (a1_2 : Int) (a1_3 : Int) (a1_4 : Int) (a1_5 : Int) (r1 : List (S41)) (r2 : Int) (w : World) (hr0 : Kd.C k41 w A0 l0.length l0) (hc0 : l0.length ≤ c0) (h : region_Add.f l0 a1_0 a1_1 a1_2 a1_3 a1_4 a1_5 = some (r1, r2)) :
    Calls Try.prog 24 #[.slice A0 l0.length c0, .agg #[.int .i64 a1_0, .int .i64 a1_1, .int .i64 a1_2, .int .i64 a1_3, .int .i64 a1_4, .int .i64 a1_5]] w fun e w' => ∃ v0_ : Value, e = .returned (.tuple #[v0_, .int .i64 r2]) ∧ Kd.V k41 41 w' w.heap.size (fun k_ => w.heap.size ≤ k_) v0_ r1 ∧ Below w.heap.size w w' := by
  unfold region_Add.f at h
  by_cases hl : l0.length < 1000000
  · rw [if_pos hl] at h
    cases hm : mayT ⟨a1_0, a1_1, a1_2, a1_3, a1_4, a1_5⟩ with
    | true =>
      rw [hm, if_pos rfl] at h
      injection h with h
      have m := add_main A0 c0 l0 ⟨a1_0, a1_1, a1_2, a1_3, a1_4, a1_5⟩ _ w hr0 hl hm rfl
      rw [h] at m
      exact m
    | false =>
      rw [hm, if_neg (by decide)] at h
      injection h with h
      injection h with h1 h2
      subst h1
      subst h2
      refine (add_no A0 c0 l0 ⟨a1_0, a1_1, a1_2, a1_3, a1_4, a1_5⟩ w hm).mono fun e w' ⟨he, hb⟩ => ⟨_, he, Kd.V_nil _ _ _ _ _, hb⟩
  · rw [if_neg hl] at h; cases h

theorem region_Cut.calls (A0 : Option Addr) (c0 : Nat) (l0 : List (S41)) (a1 : Int) (a2 : Int) (r : List (S41)) (w : World) (hr0 : Kd.C k41 w A0 l0.length l0) (hc0 : l0.length ≤ c0) (h : region_Cut.f l0 a1 a2 = some r) :
    Calls Try.prog 35 #[.slice A0 l0.length c0, .int .i64 a1, .int .i64 a2] w fun e w' => ∃ v0_ : Value, e = .returned (v0_) ∧ Kd.V k41 41 w' w.heap.size (fun k_ => w.heap.size ≤ k_) v0_ r ∧ Below w.heap.size w w' := by
  unfold region_Cut.f at h
  by_cases hl : l0.length < 1000000
  · rw [if_pos hl] at h
    injection h with h
    exact cut_main A0 c0 l0 a1 a2 r w hr0 hl h
  · rw [if_neg hl] at h; cases h

set_option maxHeartbeats 2000000 in
set_option maxRecDepth 100000 in
theorem pro_arg (A0 : Option Addr) (c0 : Nat) (l0 : List S41) (a1 a2 a3 : Int) (w : World) (h : a3 < 0 ∨ a3 > 7 ∨ a1 ≥ a2) :
    Calls Try.prog 36 #[.slice A0 l0.length c0, .int .i64 a1, .int .i64 a2, .int .i64 a3] w fun e w' => e = .returned (.tuple #[.slice none 0 0, .int .i64 1]) ∧ Below w.heap.size w w' := by
  by_cases h1 : a3 < 0
  · have e1 : decide (a3 < 0) = true := decide_eq_true h1
    clear h h1
    go_enter Try.func36, Try.ntmps36
    go_wp2
    go_ret2
    exact ⟨rfl, Below.refl _ _⟩
  by_cases h2 : a3 > 7
  · have e1 : decide (a3 < 0) = false := decide_eq_false h1
    have e2 : decide (7 < a3) = true := decide_eq_true h2
    clear h h1 h2
    go_enter Try.func36, Try.ntmps36
    go_wp2
    go_ret2
    exact ⟨rfl, Below.refl _ _⟩
  · have h3 : a1 ≥ a2 := by rcases h with h | h | h <;> first | contradiction | exact h
    have e1 : decide (a3 < 0) = false := decide_eq_false h1
    have e2 : decide (7 < a3) = false := decide_eq_false h2
    have e3 : decide (a2 ≤ a1) = true := decide_eq_true h3
    clear h h1 h2 h3
    go_enter Try.func36, Try.ntmps36
    go_wp2
    go_ret2
    exact ⟨rfl, Below.refl _ _⟩

set_option maxHeartbeats 2000000 in
set_option maxRecDepth 100000 in
theorem pro_none (A0 : Option Addr) (c0 : Nat) (l0 : List S41) (a1 a2 a3 : Int) (w : World) (hr0 : Kd.C k41 w A0 l0.length l0) (hc0 : l0.length ≤ c0) (hlen : l0.length < 1000000) (h1 : ¬ a3 < 0) (h2 : ¬ a3 > 7) (h3 : ¬ a1 ≥ a2) (hcov : covT l0 a1 a2 = false) :
    Calls Try.prog 36 #[.slice A0 l0.length c0, .int .i64 a1, .int .i64 a2, .int .i64 a3] w fun e w' => e = .returned (.tuple #[.slice none 0 0, .int .i64 12]) ∧ Below w.heap.size w w' := by
  obtain ⟨kc, hkc⟩ := (covers_ev l0 a1 a2 hlen).rounds
  rw [hcov] at hkc
  have HKC := Aside0.mk hkc
  have HR0 := Aside0.mk hr0
  have HC0 := Aside0.mk hc0
  have e1 : decide (a3 < 0) = false := decide_eq_false h1
  have e2 : decide (7 < a3) = false := decide_eq_false h2
  have e3 : decide (a2 ≤ a1) = false := decide_eq_false h3
  clear hr0 hlen hcov hkc hc0 h1 h2 h3
  go_enter Try.func36, Try.ntmps36
  go_wp2_with fail
  refine (region_Covers.calls kc _ _ _ _ _ _ _ HR0.out HC0.out HKC.out).mono ?_
  rintro e w2 ⟨rfl, hb2⟩
  have HW := Aside0.mk hb2
  clear hb2
  go_wp2
  go_ret2
  exact ⟨rfl, HW.out⟩

theorem region_Protect.calls (A0 : Option Addr) (c0 : Nat) (l0 : List (S41)) (a1 : Int) (a2 : Int) (a3 : Int) (r1 : List (S41)) (r2 : Int) (w : World) (hr0 : Kd.C k41 w A0 l0.length l0) (hc0 : l0.length ≤ c0) (h : region_Protect.f l0 a1 a2 a3 = some (r1, r2)) :
    Calls Try.prog 36 #[.slice A0 l0.length c0, .int .i64 a1, .int .i64 a2, .int .i64 a3] w fun e w' => ∃ v0_ : Value, e = .returned (.tuple #[v0_, .int .i64 r2]) ∧ Kd.V k41 41 w' w.heap.size (fun k_ => w.heap.size ≤ k_) v0_ r1 ∧ Below w.heap.size w w' := by
  unfold region_Protect.f at h
  by_cases hl : l0.length < 1000000
  · rw [if_pos hl] at h
    by_cases ha : a3 < 0 ∨ a3 > 7 ∨ a1 ≥ a2
    · rw [if_pos ha] at h
      injection h with h
      injection h with h1 h2
      subst h1
      subst h2
      exact (pro_arg A0 c0 l0 a1 a2 a3 w ha).mono fun e w' ⟨he, hb⟩ => ⟨_, he, Kd.V_nil _ _ _ _ _, hb⟩
    · rw [if_neg ha] at h
      have g1 : ¬ a3 < 0 := fun x => ha (.inl x)
      have g2 : ¬ a3 > 7 := fun x => ha (.inr (.inl x))
      have g3 : ¬ a1 ≥ a2 := fun x => ha (.inr (.inr x))
      cases hc : covT l0 a1 a2 with
      | true =>
        rw [hc, if_pos rfl] at h
        injection h with h
        injection h with h1 h2
        subst h2
        exact pro_main A0 c0 l0 a1 a2 a3 r1 w hr0 hc0 hl g1 g2 g3 hc h1
      | false =>
        rw [hc, if_neg (by decide)] at h
        injection h with h
        injection h with h1 h2
        subst h1
        subst h2
        exact (pro_none A0 c0 l0 a1 a2 a3 w hr0 hc0 hl g1 g2 g3 hc).mono fun e w' ⟨he, hb⟩ => ⟨_, he, Kd.V_nil _ _ _ _ _, hb⟩
  · rw [if_neg hl] at h; cases h
end Go.Proofs.Ytafmeagfockdfaa.Rg
