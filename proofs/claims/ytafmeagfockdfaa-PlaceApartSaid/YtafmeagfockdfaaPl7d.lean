-- Written by prn.py, a program of this session over the kit's printer. Not trusted: Lean checks it.
import Derived.Test.YtafmeagfockdfaaPl0
import Derived.Test.YtafmeagfockdfaaPl3
namespace Go.Proofs.Ytafmeagfockdfaa.Pl
open Go.RowKit Go.Proofs.YtafmeagfockdfaaW.PrintWords Go.Proofs.YtafmeagfockdfaaW.PrintLast Go.Proofs.YtafmeagfockdfaaW.PrintMore
attribute [local go_sem] max2_int min2_int max_two min_two max_three min_three max_four min_four   -- for this text's walks alone
set_option linter.unusedVariables false
set_option linter.unusedSimpArgs false

/-! ### flyleaflaw13_PlaceApart: function 4 -/
mutual
def flyleaflaw13_PlaceApart.j1 : Nat → Bool → List (S34) → Int → Int → Option (Bool)
  | 0, _, _, _, _ => none
  | k + 1, x5, x6, x183000, x183001 => (place_All.f k x6 (wrap64 (64 * (Go.bits .and .i64 x183000 63))) (wrap64 ((wrap64 (64 * (Go.bits .and .i64 x183000 63))) + (wrap64 (64 * (Go.bits .and .i64 x183001 127)))))).bind fun bt189 => (if bt189.2 = 0 then (if (bt189.1.length : Int) = (x6.length : Int) then (flyleaflaw13_PlaceApart.l1 k x5 x6 (wrap64 (64 * (Go.bits .and .i64 x183000 63))) (wrap64 ((wrap64 (64 * (Go.bits .and .i64 x183000 63))) + (wrap64 (64 * (Go.bits .and .i64 x183001 127))))) bt189.1 0) else (some false)) else (if x5 = true then (if bt189.2 = 18 then (if (bt189.1.length : Int) = 0 then (some (decide ((x6.length : Int) > 0))) else (some false)) else (some false)) else (some false)))
def flyleaflaw13_PlaceApart.l1 : Nat → Bool → List (S34) → Int → Int → List Int → Int → Option (Bool)
  | 0, _, _, _, _, _, _ => none
  | k + 1, x5, x6, x8, x9, x10, x12 => if x12 < (x10.length : Int) then (if 0 ≤ x12 then (if x12 < (x6.length : Int) then (if (Int.tmod (rd x10 x12) 64) = 0 then (if (rd x10 x12) < x8 then (flyleaflaw13_PlaceApart.j3 k x5 x6 x8 x9 x10 x12 (wrap64 ((wrap64 (Int.tdiv (wrap64 (((rd_T34 x6 x12).f0) + 63)) 64)) * 64)) true) else (flyleaflaw13_PlaceApart.j3 k x5 x6 x8 x9 x10 x12 (wrap64 ((wrap64 (Int.tdiv (wrap64 (((rd_T34 x6 x12).f0) + 63)) 64)) * 64)) (decide ((wrap64 ((rd x10 x12) + (wrap64 ((wrap64 (Int.tdiv (wrap64 (((rd_T34 x6 x12).f0) + 63)) 64)) * 64)))) > x9)))) else (flyleaflaw13_PlaceApart.j3 k x5 x6 x8 x9 x10 x12 (wrap64 ((wrap64 (Int.tdiv (wrap64 (((rd_T34 x6 x12).f0) + 63)) 64)) * 64)) true)) else (none)) else (none)) else (some x5)
def flyleaflaw13_PlaceApart.j3 : Nat → Bool → List (S34) → Int → Int → List Int → Int → Int → Bool → Option (Bool)
  | 0, _, _, _, _, _, _, _, _ => none
  | k + 1, x5, x6, x8, x9, x10, x12, x13, x122 => if x122 = true then (some false) else (if 0 ≤ x12 then (if x12 < (x6.length : Int) then (if ((rd_T34 x6 x12).f1) = 0 then (flyleaflaw13_PlaceApart.j4 k x5 x6 x8 x9 x10 x12 x13 false) else (if ((rd_T34 x6 x12).f1) ≥ x8 then (flyleaflaw13_PlaceApart.j4 k x5 x6 x8 x9 x10 x12 x13 (decide ((wrap64 (((rd_T34 x6 x12).f1) + x13)) ≤ x9))) else (flyleaflaw13_PlaceApart.j4 k x5 x6 x8 x9 x10 x12 x13 false))) else (none)) else (none))
def flyleaflaw13_PlaceApart.j4 : Nat → Bool → List (S34) → Int → Int → List Int → Int → Int → Bool → Option (Bool)
  | 0, _, _, _, _, _, _, _, _ => none
  | k + 1, x5, x6, x8, x9, x10, x12, x13, x14 => flyleaflaw13_PlaceApart.l2 k x5 x6 x8 x9 x10 x12 x13 x14 0
def flyleaflaw13_PlaceApart.l2 : Nat → Bool → List (S34) → Int → Int → List Int → Int → Int → Bool → Int → Option (Bool)
  | 0, _, _, _, _, _, _, _, _, _ => none
  | k + 1, x5, x6, x8, x9, x10, x12, x13, x14, x15 => if x15 < x12 then (if 0 ≤ x15 then (if x15 < (x6.length : Int) then (if 0 ≤ x12 then (if x12 < (x10.length : Int) then (if x15 < (x10.length : Int) then (if (rd x10 x12) < (wrap64 ((rd x10 x15) + (wrap64 ((wrap64 (Int.tdiv (wrap64 (((rd_T34 x6 x15).f0) + 63)) 64)) * 64)))) then (if (rd x10 x15) < (wrap64 ((rd x10 x12) + x13)) then (some false) else (if x14 = true then (if x12 < (x6.length : Int) then (if ((rd_T34 x6 x12).f1) ≥ (wrap64 ((rd x10 x15) + (wrap64 ((wrap64 (Int.tdiv (wrap64 (((rd_T34 x6 x15).f0) + 63)) 64)) * 64)))) then (flyleaflaw13_PlaceApart.l2 k x5 x6 x8 x9 x10 x12 x13 true (wrap64 (x15 + 1))) else (flyleaflaw13_PlaceApart.l2 k x5 x6 x8 x9 x10 x12 x13 (decide ((rd x10 x15) ≥ (wrap64 (((rd_T34 x6 x12).f1) + x13)))) (wrap64 (x15 + 1)))) else (none)) else (flyleaflaw13_PlaceApart.l2 k x5 x6 x8 x9 x10 x12 x13 false (wrap64 (x15 + 1))))) else (if x14 = true then (if x12 < (x6.length : Int) then (if ((rd_T34 x6 x12).f1) ≥ (wrap64 ((rd x10 x15) + (wrap64 ((wrap64 (Int.tdiv (wrap64 (((rd_T34 x6 x15).f0) + 63)) 64)) * 64)))) then (flyleaflaw13_PlaceApart.l2 k x5 x6 x8 x9 x10 x12 x13 true (wrap64 (x15 + 1))) else (flyleaflaw13_PlaceApart.l2 k x5 x6 x8 x9 x10 x12 x13 (decide ((rd x10 x15) ≥ (wrap64 (((rd_T34 x6 x12).f1) + x13)))) (wrap64 (x15 + 1)))) else (none)) else (flyleaflaw13_PlaceApart.l2 k x5 x6 x8 x9 x10 x12 x13 false (wrap64 (x15 + 1))))) else (none)) else (none)) else (none)) else (none)) else (none)) else (if x14 = true then (if 0 ≤ x12 then (if x12 < (x10.length : Int) then (if x12 < (x6.length : Int) then (if (rd x10 x12) = ((rd_T34 x6 x12).f1) then (flyleaflaw13_PlaceApart.l1 k x5 x6 x8 x9 x10 (wrap64 (x12 + 1))) else (some false)) else (none)) else (none)) else (none)) else (flyleaflaw13_PlaceApart.l1 k x5 x6 x8 x9 x10 (wrap64 (x12 + 1))))
def flyleaflaw13_PlaceApart.l0 : Nat → List (S32) → Bool → List (S34) → Int → Int → Int → Option (Bool)
  | 0, _, _, _, _, _, _ => none
  | k + 1, x0, x5, x6, x7, x183000, x183001 => if x7 < (x0.length : Int) then (if x7 < 12 then (if 0 ≤ x7 then (if x6.length < 8796093022208 then (flyleaflaw13_PlaceApart.l0 k x0 x5 (x6 ++ [(⟨wrap64 (1 + (Go.bits .and .i64 ((rd_T32 x0 x7).f0) 511)), wrap64 (64 * (Go.bits .and .i64 ((rd_T32 x0 x7).f1) 255))⟩ : S34)]) (wrap64 (x7 + 1)) x183000 x183001) else (none)) else (none)) else (flyleaflaw13_PlaceApart.j1 k x5 x6 x183000 x183001)) else (flyleaflaw13_PlaceApart.j1 k x5 x6 x183000 x183001)
end
def flyleaflaw13_PlaceApart.f (k : Nat) (l0 : List (S32)) (a1_0 : Int) (a1_1 : Int) : Option (Bool) := (flyleaflaw13_awake.f k).bind fun t183 => (flyleaflaw13_PlaceApart.l0 k l0 t183 ([] : List (S34)) 0 a1_0 a1_1)
theorem flyleaflaw13_PlaceApart.mono_l : ∀ k, (∀ y0 y1 y2 y3, LeO (flyleaflaw13_PlaceApart.j1 k y0 y1 y2 y3) (flyleaflaw13_PlaceApart.j1 (k + 1) y0 y1 y2 y3)) ∧ (∀ y0 y1 y2 y3 y4 y5, LeO (flyleaflaw13_PlaceApart.l1 k y0 y1 y2 y3 y4 y5) (flyleaflaw13_PlaceApart.l1 (k + 1) y0 y1 y2 y3 y4 y5)) ∧ (∀ y0 y1 y2 y3 y4 y5 y6 y7, LeO (flyleaflaw13_PlaceApart.j3 k y0 y1 y2 y3 y4 y5 y6 y7) (flyleaflaw13_PlaceApart.j3 (k + 1) y0 y1 y2 y3 y4 y5 y6 y7)) ∧ (∀ y0 y1 y2 y3 y4 y5 y6 y7, LeO (flyleaflaw13_PlaceApart.j4 k y0 y1 y2 y3 y4 y5 y6 y7) (flyleaflaw13_PlaceApart.j4 (k + 1) y0 y1 y2 y3 y4 y5 y6 y7)) ∧ (∀ y0 y1 y2 y3 y4 y5 y6 y7 y8, LeO (flyleaflaw13_PlaceApart.l2 k y0 y1 y2 y3 y4 y5 y6 y7 y8) (flyleaflaw13_PlaceApart.l2 (k + 1) y0 y1 y2 y3 y4 y5 y6 y7 y8)) ∧ (∀ y0 y1 y2 y3 y4 y5, LeO (flyleaflaw13_PlaceApart.l0 k y0 y1 y2 y3 y4 y5) (flyleaflaw13_PlaceApart.l0 (k + 1) y0 y1 y2 y3 y4 y5))
  | 0 => ⟨fun _ _ _ _ r h => by simp [flyleaflaw13_PlaceApart.j1] at h, fun _ _ _ _ _ _ r h => by simp [flyleaflaw13_PlaceApart.l1] at h, fun _ _ _ _ _ _ _ _ r h => by simp [flyleaflaw13_PlaceApart.j3] at h, fun _ _ _ _ _ _ _ _ r h => by simp [flyleaflaw13_PlaceApart.j4] at h, fun _ _ _ _ _ _ _ _ _ r h => by simp [flyleaflaw13_PlaceApart.l2] at h, fun _ _ _ _ _ _ r h => by simp [flyleaflaw13_PlaceApart.l0] at h⟩
  | k + 1 => by
    obtain ⟨ih0, ih1, ih2, ih3, ih4, ih5⟩ := flyleaflaw13_PlaceApart.mono_l k
    refine ⟨?_, ?_, ?_, ?_, ?_, ?_⟩
    · intro y0 y1 y2 y3
      unfold flyleaflaw13_PlaceApart.j1
      repeat' first
      | (with_reducible exact ih0 _ _ _ _)
      | (with_reducible exact ih1 _ _ _ _ _ _)
      | (with_reducible exact ih2 _ _ _ _ _ _ _ _)
      | (with_reducible exact ih3 _ _ _ _ _ _ _ _)
      | (with_reducible exact ih4 _ _ _ _ _ _ _ _ _)
      | (with_reducible exact ih5 _ _ _ _ _ _)
      | (with_reducible exact flyleaflaw13_awake.mono _)
      | (with_reducible exact place_All.mono _ _ _ _)
      | (with_reducible exact LeO.refl _)
      | (with_reducible exact LeO.none _)
      | (with_reducible refine LeO.ite ?_ ?_)
      | (with_reducible refine LeO.bind ?_ (fun _ => ?_))
      | exact ih0 _ _ _ _
      | exact ih1 _ _ _ _ _ _
      | exact ih2 _ _ _ _ _ _ _ _
      | exact ih3 _ _ _ _ _ _ _ _
      | exact ih4 _ _ _ _ _ _ _ _ _
      | exact ih5 _ _ _ _ _ _
      | exact flyleaflaw13_awake.mono _
      | exact place_All.mono _ _ _ _
      | exact LeO.none _
      | refine LeO.ite ?_ ?_
      | refine LeO.bind ?_ (fun _ => ?_)
    · intro y0 y1 y2 y3 y4 y5
      unfold flyleaflaw13_PlaceApart.l1
      repeat' first
      | (with_reducible exact ih0 _ _ _ _)
      | (with_reducible exact ih1 _ _ _ _ _ _)
      | (with_reducible exact ih2 _ _ _ _ _ _ _ _)
      | (with_reducible exact ih3 _ _ _ _ _ _ _ _)
      | (with_reducible exact ih4 _ _ _ _ _ _ _ _ _)
      | (with_reducible exact ih5 _ _ _ _ _ _)
      | (with_reducible exact flyleaflaw13_awake.mono _)
      | (with_reducible exact place_All.mono _ _ _ _)
      | (with_reducible exact LeO.refl _)
      | (with_reducible exact LeO.none _)
      | (with_reducible refine LeO.ite ?_ ?_)
      | (with_reducible refine LeO.bind ?_ (fun _ => ?_))
      | exact ih0 _ _ _ _
      | exact ih1 _ _ _ _ _ _
      | exact ih2 _ _ _ _ _ _ _ _
      | exact ih3 _ _ _ _ _ _ _ _
      | exact ih4 _ _ _ _ _ _ _ _ _
      | exact ih5 _ _ _ _ _ _
      | exact flyleaflaw13_awake.mono _
      | exact place_All.mono _ _ _ _
      | exact LeO.none _
      | refine LeO.ite ?_ ?_
      | refine LeO.bind ?_ (fun _ => ?_)
    · intro y0 y1 y2 y3 y4 y5 y6 y7
      unfold flyleaflaw13_PlaceApart.j3
      repeat' first
      | (with_reducible exact ih0 _ _ _ _)
      | (with_reducible exact ih1 _ _ _ _ _ _)
      | (with_reducible exact ih2 _ _ _ _ _ _ _ _)
      | (with_reducible exact ih3 _ _ _ _ _ _ _ _)
      | (with_reducible exact ih4 _ _ _ _ _ _ _ _ _)
      | (with_reducible exact ih5 _ _ _ _ _ _)
      | (with_reducible exact flyleaflaw13_awake.mono _)
      | (with_reducible exact place_All.mono _ _ _ _)
      | (with_reducible exact LeO.refl _)
      | (with_reducible exact LeO.none _)
      | (with_reducible refine LeO.ite ?_ ?_)
      | (with_reducible refine LeO.bind ?_ (fun _ => ?_))
      | exact ih0 _ _ _ _
      | exact ih1 _ _ _ _ _ _
      | exact ih2 _ _ _ _ _ _ _ _
      | exact ih3 _ _ _ _ _ _ _ _
      | exact ih4 _ _ _ _ _ _ _ _ _
      | exact ih5 _ _ _ _ _ _
      | exact flyleaflaw13_awake.mono _
      | exact place_All.mono _ _ _ _
      | exact LeO.none _
      | refine LeO.ite ?_ ?_
      | refine LeO.bind ?_ (fun _ => ?_)
    · intro y0 y1 y2 y3 y4 y5 y6 y7
      unfold flyleaflaw13_PlaceApart.j4
      repeat' first
      | (with_reducible exact ih0 _ _ _ _)
      | (with_reducible exact ih1 _ _ _ _ _ _)
      | (with_reducible exact ih2 _ _ _ _ _ _ _ _)
      | (with_reducible exact ih3 _ _ _ _ _ _ _ _)
      | (with_reducible exact ih4 _ _ _ _ _ _ _ _ _)
      | (with_reducible exact ih5 _ _ _ _ _ _)
      | (with_reducible exact flyleaflaw13_awake.mono _)
      | (with_reducible exact place_All.mono _ _ _ _)
      | (with_reducible exact LeO.refl _)
      | (with_reducible exact LeO.none _)
      | (with_reducible refine LeO.ite ?_ ?_)
      | (with_reducible refine LeO.bind ?_ (fun _ => ?_))
      | exact ih0 _ _ _ _
      | exact ih1 _ _ _ _ _ _
      | exact ih2 _ _ _ _ _ _ _ _
      | exact ih3 _ _ _ _ _ _ _ _
      | exact ih4 _ _ _ _ _ _ _ _ _
      | exact ih5 _ _ _ _ _ _
      | exact flyleaflaw13_awake.mono _
      | exact place_All.mono _ _ _ _
      | exact LeO.none _
      | refine LeO.ite ?_ ?_
      | refine LeO.bind ?_ (fun _ => ?_)
    · intro y0 y1 y2 y3 y4 y5 y6 y7 y8
      unfold flyleaflaw13_PlaceApart.l2
      repeat' first
      | (with_reducible exact ih0 _ _ _ _)
      | (with_reducible exact ih1 _ _ _ _ _ _)
      | (with_reducible exact ih2 _ _ _ _ _ _ _ _)
      | (with_reducible exact ih3 _ _ _ _ _ _ _ _)
      | (with_reducible exact ih4 _ _ _ _ _ _ _ _ _)
      | (with_reducible exact ih5 _ _ _ _ _ _)
      | (with_reducible exact flyleaflaw13_awake.mono _)
      | (with_reducible exact place_All.mono _ _ _ _)
      | (with_reducible exact LeO.refl _)
      | (with_reducible exact LeO.none _)
      | (with_reducible refine LeO.ite ?_ ?_)
      | (with_reducible refine LeO.bind ?_ (fun _ => ?_))
      | exact ih0 _ _ _ _
      | exact ih1 _ _ _ _ _ _
      | exact ih2 _ _ _ _ _ _ _ _
      | exact ih3 _ _ _ _ _ _ _ _
      | exact ih4 _ _ _ _ _ _ _ _ _
      | exact ih5 _ _ _ _ _ _
      | exact flyleaflaw13_awake.mono _
      | exact place_All.mono _ _ _ _
      | exact LeO.none _
      | refine LeO.ite ?_ ?_
      | refine LeO.bind ?_ (fun _ => ?_)
    · intro y0 y1 y2 y3 y4 y5
      unfold flyleaflaw13_PlaceApart.l0
      repeat' first
      | (with_reducible exact ih0 _ _ _ _)
      | (with_reducible exact ih1 _ _ _ _ _ _)
      | (with_reducible exact ih2 _ _ _ _ _ _ _ _)
      | (with_reducible exact ih3 _ _ _ _ _ _ _ _)
      | (with_reducible exact ih4 _ _ _ _ _ _ _ _ _)
      | (with_reducible exact ih5 _ _ _ _ _ _)
      | (with_reducible exact flyleaflaw13_awake.mono _)
      | (with_reducible exact place_All.mono _ _ _ _)
      | (with_reducible exact LeO.refl _)
      | (with_reducible exact LeO.none _)
      | (with_reducible refine LeO.ite ?_ ?_)
      | (with_reducible refine LeO.bind ?_ (fun _ => ?_))
      | exact ih0 _ _ _ _
      | exact ih1 _ _ _ _ _ _
      | exact ih2 _ _ _ _ _ _ _ _
      | exact ih3 _ _ _ _ _ _ _ _
      | exact ih4 _ _ _ _ _ _ _ _ _
      | exact ih5 _ _ _ _ _ _
      | exact flyleaflaw13_awake.mono _
      | exact place_All.mono _ _ _ _
      | exact LeO.none _
      | refine LeO.ite ?_ ?_
      | refine LeO.bind ?_ (fun _ => ?_)
theorem flyleaflaw13_PlaceApart.mono : ∀ a0 a1 a2 k, LeO (flyleaflaw13_PlaceApart.f k a0 a1 a2) (flyleaflaw13_PlaceApart.f (k + 1) a0 a1 a2) := by
  intro a0 a1 a2 k
  obtain ⟨ih0, ih1, ih2, ih3, ih4, ih5⟩ := flyleaflaw13_PlaceApart.mono_l k
  unfold flyleaflaw13_PlaceApart.f
  repeat' first
      | (with_reducible exact ih0 _ _ _ _)
      | (with_reducible exact ih1 _ _ _ _ _ _)
      | (with_reducible exact ih2 _ _ _ _ _ _ _ _)
      | (with_reducible exact ih3 _ _ _ _ _ _ _ _)
      | (with_reducible exact ih4 _ _ _ _ _ _ _ _ _)
      | (with_reducible exact ih5 _ _ _ _ _ _)
      | (with_reducible exact flyleaflaw13_awake.mono _)
      | (with_reducible exact place_All.mono _ _ _ _)
      | (with_reducible exact LeO.refl _)
      | (with_reducible exact LeO.none _)
      | (with_reducible refine LeO.ite ?_ ?_)
      | (with_reducible refine LeO.bind ?_ (fun _ => ?_))
      | exact ih0 _ _ _ _
      | exact ih1 _ _ _ _ _ _
      | exact ih2 _ _ _ _ _ _ _ _
      | exact ih3 _ _ _ _ _ _ _ _
      | exact ih4 _ _ _ _ _ _ _ _ _
      | exact ih5 _ _ _ _ _ _
      | exact flyleaflaw13_awake.mono _
      | exact place_All.mono _ _ _ _
      | exact LeO.none _
      | refine LeO.ite ?_ ?_
      | refine LeO.bind ?_ (fun _ => ?_)
end Go.Proofs.Ytafmeagfockdfaa.Pl
