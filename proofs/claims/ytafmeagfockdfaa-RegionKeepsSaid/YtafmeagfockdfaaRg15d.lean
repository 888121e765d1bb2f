-- Written by prn.py, a program of this session over the kit's printer. Not trusted: Lean checks it.
import Derived.Test.YtafmeagfockdfaaRg0
import Derived.Test.YtafmeagfockdfaaRg2
import Derived.Test.YtafmeagfockdfaaRg4
import Derived.Test.YtafmeagfockdfaaRg5
import Derived.Test.YtafmeagfockdfaaRg7
import Derived.Test.YtafmeagfockdfaaRg11
import Derived.Test.YtafmeagfockdfaaRg12
import Derived.Test.YtafmeagfockdfaaRg14
import Derived.Test.YtafmeagfockdfaaRgTop
namespace Go.Proofs.Ytafmeagfockdfaa.Rg
open Go.RowKit Go.Proofs.YtafmeagfockdfaaW.PrintWords Go.Proofs.YtafmeagfockdfaaW.PrintLast Go.Proofs.YtafmeagfockdfaaW.PrintMore
attribute [local go_sem] max2_int min2_int max_two min_two max_three min_three max_four min_four   -- for this text's walks alone
set_option linter.unusedVariables false
set_option linter.unusedSimpArgs false

attribute [local go_sem high] eqA77
/-! ### flyleaflaw15_RegionKeeps: function 9 -/
mutual
def flyleaflaw15_RegionKeeps.l0 : Nat → List (S69) → Bool → List (S41) → Int → Int → Int → Int → Option (Bool)
  | 0, _, _, _, _, _, _, _ => none
  | k + 1, x0, x5, x6, x7, x242000, x242001, x242002 => if x7 < (x0.length : Int) then (flyleaflaw15_RegionKeeps.j1 k x0 x5 x6 x7 (decide (x7 < 10)) x242000 x242001 x242002) else (flyleaflaw15_RegionKeeps.j1 k x0 x5 x6 x7 false x242000 x242001 x242002)
def flyleaflaw15_RegionKeeps.j1 : Nat → List (S69) → Bool → List (S41) → Int → Bool → Int → Int → Int → Option (Bool)
  | 0, _, _, _, _, _, _, _, _ => none
  | k + 1, x0, x5, x6, x7, x38, x242000, x242001, x242002 => if x38 = true then (if 0 ≤ x7 then (if x7 < (x0.length : Int) then ((flyleaflaw15_Op_small.f ((rd_T69 x0 x7).f0) ((rd_T69 x0 x7).f1) ((rd_T69 x0 x7).f2) ((rd_T69 x0 x7).f3) ((rd_T69 x0 x7).f4) ((rd_T69 x0 x7).f5.f0) ((rd_T69 x0 x7).f5.f1) ((rd_T69 x0 x7).f5.f2) ((rd_T69 x0 x7).f5.f3) ((rd_T69 x0 x7).f5.f4) ((rd_T69 x0 x7).f5.f5)).bind fun bt244 => ((flyleaflaw15_Op_of.f k bt244.1 bt244.2.1 bt244.2.2.1 bt244.2.2.2.1 bt244.2.2.2.2.1 bt244.2.2.2.2.2.1 bt244.2.2.2.2.2.2.1 bt244.2.2.2.2.2.2.2.1 bt244.2.2.2.2.2.2.2.2.1 bt244.2.2.2.2.2.2.2.2.2.1 bt244.2.2.2.2.2.2.2.2.2.2 x6).bind fun bt255 => (if bt255.2 = 0 then (flyleaflaw15_RegionKeeps.l0 k x0 x5 bt255.1 (wrap64 (x7 + 1)) x242000 x242001 x242002) else (flyleaflaw15_RegionKeeps.l0 k x0 x5 x6 (wrap64 (x7 + 1)) x242000 x242001 x242002)))) else (none)) else (none)) else ((region_Cut.f x6 (Go.bits .and .i64 x242000 63) (Go.bits .and .i64 x242001 63)).bind fun t259 => ((region_Protect.f x6 (Go.bits .and .i64 x242000 63) (Go.bits .and .i64 x242001 63) (Go.bits .and .i64 x242002 7)).bind fun bt262 => (flyleaflaw15_RegionKeeps.l1 k x5 x6 (Go.bits .and .i64 x242000 63) (Go.bits .and .i64 x242001 63) t259 bt262.1 bt262.2 0 x242000 x242001 x242002)))
def flyleaflaw15_RegionKeeps.l1 : Nat → Bool → List (S41) → Int → Int → List (S41) → List (S41) → Int → Int → Int → Int → Int → Option (Bool)
  | 0, _, _, _, _, _, _, _, _, _, _, _ => none
  | k + 1, x5, x6, x10, x11, x12, x13, x14, x15, x242000, x242001, x242002 => if x15 < 70 then ((region_Find.f k x6 x15).bind fun bt267 => ((region_Find.f k x12 x15).bind fun bt275 => (if x15 ≥ x10 then (flyleaflaw15_RegionKeeps.j3 k x5 x6 x10 x11 x12 x13 x14 x15 bt267.2.2.2.2.2.2 bt275.2.2.2.2.2.2 (decide (x15 < x11)) x242000 x242001 x242002 bt267.1 bt267.2.1 bt267.2.2.1 bt267.2.2.2.1 bt267.2.2.2.2.1 bt267.2.2.2.2.2.1 bt275.1 bt275.2.1 bt275.2.2.1 bt275.2.2.2.1 bt275.2.2.2.2.1 bt275.2.2.2.2.2.1) else (flyleaflaw15_RegionKeeps.j3 k x5 x6 x10 x11 x12 x13 x14 x15 bt267.2.2.2.2.2.2 bt275.2.2.2.2.2.2 false x242000 x242001 x242002 bt267.1 bt267.2.1 bt267.2.2.1 bt267.2.2.2.1 bt267.2.2.2.2.1 bt267.2.2.2.2.2.1 bt275.1 bt275.2.1 bt275.2.2.1 bt275.2.2.2.1 bt275.2.2.2.2.1 bt275.2.2.2.2.2.1)))) else (if x5 = true then (if x10 < x11 then ((region_Covers.f k x6 x10 x11).bind fun t266 => (some ((x14 == 0) == t266))) else (some ((x14 == 0) == false))) else (some false))
def flyleaflaw15_RegionKeeps.j3 : Nat → Bool → List (S41) → Int → Int → List (S41) → List (S41) → Int → Int → Bool → Bool → Bool → Int → Int → Int → Int → Int → Int → Int → Int → Int → Int → Int → Int → Int → Int → Int → Option (Bool)
  | 0, _, _, _, _, _, _, _, _, _, _, _, _, _, _, _, _, _, _, _, _, _, _, _, _, _, _ => none
  | k + 1, x5, x6, x10, x11, x12, x13, x14, x15, x17, x19, x20, x242000, x242001, x242002, x275000, x275001, x275002, x275003, x275004, x275005, x283000, x283001, x283002, x283003, x283004, x283005 => if x20 = true then (if x19 = true then (flyleaflaw15_RegionKeeps.j4 k x5 x6 x10 x11 x12 x13 x14 x15 x17 x20 true x242000 x242001 x242002 x275000 x275001 x275002 x275003 x275004 x275005 x283000 x283001 x283002 x283003 x283004 x283005) else (flyleaflaw15_RegionKeeps.j4 k x5 x6 x10 x11 x12 x13 x14 x15 x17 x20 false x242000 x242001 x242002 x275000 x275001 x275002 x275003 x275004 x275005 x283000 x283001 x283002 x283003 x283004 x283005)) else (if (x17 != x19) = true then (flyleaflaw15_RegionKeeps.j4 k x5 x6 x10 x11 x12 x13 x14 x15 x17 x20 true x242000 x242001 x242002 x275000 x275001 x275002 x275003 x275004 x275005 x283000 x283001 x283002 x283003 x283004 x283005) else (if x17 = true then (if x275002 = x283002 then (if x275003 = x283003 then (flyleaflaw15_RegionKeeps.j4 k x5 x6 x10 x11 x12 x13 x14 x15 x17 x20 (x275004 != x283004) x242000 x242001 x242002 x275000 x275001 x275002 x275003 x275004 x275005 x283000 x283001 x283002 x283003 x283004 x283005) else (flyleaflaw15_RegionKeeps.j4 k x5 x6 x10 x11 x12 x13 x14 x15 x17 x20 true x242000 x242001 x242002 x275000 x275001 x275002 x275003 x275004 x275005 x283000 x283001 x283002 x283003 x283004 x283005)) else (flyleaflaw15_RegionKeeps.j4 k x5 x6 x10 x11 x12 x13 x14 x15 x17 x20 true x242000 x242001 x242002 x275000 x275001 x275002 x275003 x275004 x275005 x283000 x283001 x283002 x283003 x283004 x283005)) else (flyleaflaw15_RegionKeeps.j4 k x5 x6 x10 x11 x12 x13 x14 x15 x17 x20 false x242000 x242001 x242002 x275000 x275001 x275002 x275003 x275004 x275005 x283000 x283001 x283002 x283003 x283004 x283005)))
def flyleaflaw15_RegionKeeps.j4 : Nat → Bool → List (S41) → Int → Int → List (S41) → List (S41) → Int → Int → Bool → Bool → Bool → Int → Int → Int → Int → Int → Int → Int → Int → Int → Int → Int → Int → Int → Int → Int → Option (Bool)
  | 0, _, _, _, _, _, _, _, _, _, _, _, _, _, _, _, _, _, _, _, _, _, _, _, _, _, _ => none
  | k + 1, x5, x6, x10, x11, x12, x13, x14, x15, x17, x20, x134, x242000, x242001, x242002, x275000, x275001, x275002, x275003, x275004, x275005, x283000, x283001, x283002, x283003, x283004, x283005 => if x134 = true then (some false) else ((region_Key.f x275000 x275001 x275002 x275003 x275004 x275005 x15).bind fun bt283 => ((region_Key.f x283000 x283001 x283002 x283003 x283004 x283005 x15).bind fun bt287 => (if x20 = true then (flyleaflaw15_RegionKeeps.j5 k x5 x6 x10 x11 x12 x13 x14 x15 x17 x20 bt283.2.2 false x242000 x242001 x242002 x275000 x275001 x275002 x275003 x275004 x275005 bt283.1 bt283.2.1) else (if (!(bt283.1 == bt287.1) || (!(bt283.2.1 == bt287.2.1))) = true then (flyleaflaw15_RegionKeeps.j5 k x5 x6 x10 x11 x12 x13 x14 x15 x17 x20 bt283.2.2 true x242000 x242001 x242002 x275000 x275001 x275002 x275003 x275004 x275005 bt283.1 bt283.2.1) else (flyleaflaw15_RegionKeeps.j5 k x5 x6 x10 x11 x12 x13 x14 x15 x17 x20 bt283.2.2 (bt283.2.2 != bt287.2.2) x242000 x242001 x242002 x275000 x275001 x275002 x275003 x275004 x275005 bt283.1 bt283.2.1)))))
def flyleaflaw15_RegionKeeps.j5 : Nat → Bool → List (S41) → Int → Int → List (S41) → List (S41) → Int → Int → Bool → Bool → Bool → Bool → Int → Int → Int → Int → Int → Int → Int → Int → Int → Int → Int → Option (Bool)
  | 0, _, _, _, _, _, _, _, _, _, _, _, _, _, _, _, _, _, _, _, _, _, _, _ => none
  | k + 1, x5, x6, x10, x11, x12, x13, x14, x15, x17, x20, x22, x158, x242000, x242001, x242002, x275000, x275001, x275002, x275003, x275004, x275005, x287000, x287001 => if x158 = true then (some false) else (if x14 = 0 then ((region_Find.f k x13 x15).bind fun bt291 => ((region_Key.f bt291.1 bt291.2.1 bt291.2.2.1 bt291.2.2.2.1 bt291.2.2.2.2.1 bt291.2.2.2.2.2.1 x15).bind fun bt299 => (flyleaflaw15_RegionKeeps.j6 k x5 x6 x10 x11 x12 x13 x14 x15 x17 x20 x22 bt291.2.2.2.2.2.2 bt299.2.2 x275002 x242000 x242001 x242002 x275000 x275001 x275002 x275003 x275004 x275005 x287000 x287001 bt291.1 bt291.2.1 bt291.2.2.1 bt291.2.2.2.1 bt291.2.2.2.2.1 bt291.2.2.2.2.2.1 bt299.1 bt299.2.1))) else (flyleaflaw15_RegionKeeps.l1 k x5 x6 x10 x11 x12 x13 x14 (wrap64 (x15 + 1)) x242000 x242001 x242002))
def flyleaflaw15_RegionKeeps.j6 : Nat → Bool → List (S41) → Int → Int → List (S41) → List (S41) → Int → Int → Bool → Bool → Bool → Bool → Bool → Int → Int → Int → Int → Int → Int → Int → Int → Int → Int → Int → Int → Int → Int → Int → Int → Int → Int → Int → Int → Option (Bool)
  | 0, _, _, _, _, _, _, _, _, _, _, _, _, _, _, _, _, _, _, _, _, _, _, _, _, _, _, _, _, _, _, _, _, _ => none
  | k + 1, x5, x6, x10, x11, x12, x13, x14, x15, x17, x20, x22, x26, x28, x29, x242000, x242001, x242002, x275000, x275001, x275002, x275003, x275004, x275005, x287000, x287001, x299000, x299001, x299002, x299003, x299004, x299005, x303000, x303001 => if x20 = true then (if (x26 != x17) = true then (some false) else (if x17 = true then (if x299002 = (Go.bits .and .i64 x242002 7) then (if x299003 = x275003 then (if (!(x287000 == x303000) || (!(x287001 == x303001))) = true then (some false) else (if (x22 != x28) = true then (some false) else (flyleaflaw15_RegionKeeps.l1 k x5 x6 x10 x11 x12 x13 x14 (wrap64 (x15 + 1)) x242000 x242001 x242002))) else (some false)) else (some false)) else (flyleaflaw15_RegionKeeps.l1 k x5 x6 x10 x11 x12 x13 x14 (wrap64 (x15 + 1)) x242000 x242001 x242002))) else (if (x26 != x17) = true then (some false) else (if x17 = true then (if x299002 = x29 then (if x299003 = x275003 then (if (!(x287000 == x303000) || (!(x287001 == x303001))) = true then (some false) else (if (x22 != x28) = true then (some false) else (flyleaflaw15_RegionKeeps.l1 k x5 x6 x10 x11 x12 x13 x14 (wrap64 (x15 + 1)) x242000 x242001 x242002))) else (some false)) else (some false)) else (flyleaflaw15_RegionKeeps.l1 k x5 x6 x10 x11 x12 x13 x14 (wrap64 (x15 + 1)) x242000 x242001 x242002)))
end
def flyleaflaw15_RegionKeeps.f (k : Nat) (l0 : List (S69)) (a1_0 : Int) (a1_1 : Int) (a1_2 : Int) : Option (Bool) := (flyleaflaw15_awake.f k).bind fun t242 => (flyleaflaw15_RegionKeeps.l0 k l0 t242 ([] : List (S41)) 0 a1_0 a1_1 a1_2)
theorem flyleaflaw15_RegionKeeps.mono_l : ∀ k, (∀ y0 y1 y2 y3 y4 y5 y6, LeO (flyleaflaw15_RegionKeeps.l0 k y0 y1 y2 y3 y4 y5 y6) (flyleaflaw15_RegionKeeps.l0 (k + 1) y0 y1 y2 y3 y4 y5 y6)) ∧ (∀ y0 y1 y2 y3 y4 y5 y6 y7, LeO (flyleaflaw15_RegionKeeps.j1 k y0 y1 y2 y3 y4 y5 y6 y7) (flyleaflaw15_RegionKeeps.j1 (k + 1) y0 y1 y2 y3 y4 y5 y6 y7)) ∧ (∀ y0 y1 y2 y3 y4 y5 y6 y7 y8 y9 y10, LeO (flyleaflaw15_RegionKeeps.l1 k y0 y1 y2 y3 y4 y5 y6 y7 y8 y9 y10) (flyleaflaw15_RegionKeeps.l1 (k + 1) y0 y1 y2 y3 y4 y5 y6 y7 y8 y9 y10)) ∧ (∀ y0 y1 y2 y3 y4 y5 y6 y7 y8 y9 y10 y11 y12 y13 y14 y15 y16 y17 y18 y19 y20 y21 y22 y23 y24 y25, LeO (flyleaflaw15_RegionKeeps.j3 k y0 y1 y2 y3 y4 y5 y6 y7 y8 y9 y10 y11 y12 y13 y14 y15 y16 y17 y18 y19 y20 y21 y22 y23 y24 y25) (flyleaflaw15_RegionKeeps.j3 (k + 1) y0 y1 y2 y3 y4 y5 y6 y7 y8 y9 y10 y11 y12 y13 y14 y15 y16 y17 y18 y19 y20 y21 y22 y23 y24 y25)) ∧ (∀ y0 y1 y2 y3 y4 y5 y6 y7 y8 y9 y10 y11 y12 y13 y14 y15 y16 y17 y18 y19 y20 y21 y22 y23 y24 y25, LeO (flyleaflaw15_RegionKeeps.j4 k y0 y1 y2 y3 y4 y5 y6 y7 y8 y9 y10 y11 y12 y13 y14 y15 y16 y17 y18 y19 y20 y21 y22 y23 y24 y25) (flyleaflaw15_RegionKeeps.j4 (k + 1) y0 y1 y2 y3 y4 y5 y6 y7 y8 y9 y10 y11 y12 y13 y14 y15 y16 y17 y18 y19 y20 y21 y22 y23 y24 y25)) ∧ (∀ y0 y1 y2 y3 y4 y5 y6 y7 y8 y9 y10 y11 y12 y13 y14 y15 y16 y17 y18 y19 y20 y21 y22, LeO (flyleaflaw15_RegionKeeps.j5 k y0 y1 y2 y3 y4 y5 y6 y7 y8 y9 y10 y11 y12 y13 y14 y15 y16 y17 y18 y19 y20 y21 y22) (flyleaflaw15_RegionKeeps.j5 (k + 1) y0 y1 y2 y3 y4 y5 y6 y7 y8 y9 y10 y11 y12 y13 y14 y15 y16 y17 y18 y19 y20 y21 y22)) ∧ (∀ y0 y1 y2 y3 y4 y5 y6 y7 y8 y9 y10 y11 y12 y13 y14 y15 y16 y17 y18 y19 y20 y21 y22 y23 y24 y25 y26 y27 y28 y29 y30 y31 y32, LeO (flyleaflaw15_RegionKeeps.j6 k y0 y1 y2 y3 y4 y5 y6 y7 y8 y9 y10 y11 y12 y13 y14 y15 y16 y17 y18 y19 y20 y21 y22 y23 y24 y25 y26 y27 y28 y29 y30 y31 y32) (flyleaflaw15_RegionKeeps.j6 (k + 1) y0 y1 y2 y3 y4 y5 y6 y7 y8 y9 y10 y11 y12 y13 y14 y15 y16 y17 y18 y19 y20 y21 y22 y23 y24 y25 y26 y27 y28 y29 y30 y31 y32))
  | 0 => ⟨fun _ _ _ _ _ _ _ r h => by simp [flyleaflaw15_RegionKeeps.l0] at h, fun _ _ _ _ _ _ _ _ r h => by simp [flyleaflaw15_RegionKeeps.j1] at h, fun _ _ _ _ _ _ _ _ _ _ _ r h => by simp [flyleaflaw15_RegionKeeps.l1] at h, fun _ _ _ _ _ _ _ _ _ _ _ _ _ _ _ _ _ _ _ _ _ _ _ _ _ _ r h => by simp [flyleaflaw15_RegionKeeps.j3] at h, fun _ _ _ _ _ _ _ _ _ _ _ _ _ _ _ _ _ _ _ _ _ _ _ _ _ _ r h => by simp [flyleaflaw15_RegionKeeps.j4] at h, fun _ _ _ _ _ _ _ _ _ _ _ _ _ _ _ _ _ _ _ _ _ _ _ r h => by simp [flyleaflaw15_RegionKeeps.j5] at h, fun _ _ _ _ _ _ _ _ _ _ _ _ _ _ _ _ _ _ _ _ _ _ _ _ _ _ _ _ _ _ _ _ _ r h => by simp [flyleaflaw15_RegionKeeps.j6] at h⟩
  | k + 1 => by
    obtain ⟨ih0, ih1, ih2, ih3, ih4, ih5, ih6⟩ := flyleaflaw15_RegionKeeps.mono_l k
    refine ⟨?_, ?_, ?_, ?_, ?_, ?_, ?_⟩
    · intro y0 y1 y2 y3 y4 y5 y6
      unfold flyleaflaw15_RegionKeeps.l0
      repeat' first
      | (with_reducible exact ih0 _ _ _ _ _ _ _)
      | (with_reducible exact ih1 _ _ _ _ _ _ _ _)
      | (with_reducible exact ih2 _ _ _ _ _ _ _ _ _ _ _)
      | (with_reducible exact ih3 _ _ _ _ _ _ _ _ _ _ _ _ _ _ _ _ _ _ _ _ _ _ _ _ _ _)
      | (with_reducible exact ih4 _ _ _ _ _ _ _ _ _ _ _ _ _ _ _ _ _ _ _ _ _ _ _ _ _ _)
      | (with_reducible exact ih5 _ _ _ _ _ _ _ _ _ _ _ _ _ _ _ _ _ _ _ _ _ _ _)
      | (with_reducible exact ih6 _ _ _ _ _ _ _ _ _ _ _ _ _ _ _ _ _ _ _ _ _ _ _ _ _ _ _ _ _ _ _ _ _)
      | (with_reducible exact flyleaflaw15_Op_of.mono _ _ _ _ _ _ _ _ _ _ _ _ _)
      | (with_reducible exact flyleaflaw15_awake.mono _)
      | (with_reducible exact region_Covers.mono _ _ _ _)
      | (with_reducible exact region_Find.mono _ _ _)
      | (with_reducible exact LeO.refl _)
      | (with_reducible exact LeO.none _)
      | (with_reducible refine LeO.ite ?_ ?_)
      | (with_reducible refine LeO.bind ?_ (fun _ => ?_))
      | exact ih0 _ _ _ _ _ _ _
      | exact ih1 _ _ _ _ _ _ _ _
      | exact ih2 _ _ _ _ _ _ _ _ _ _ _
      | exact ih3 _ _ _ _ _ _ _ _ _ _ _ _ _ _ _ _ _ _ _ _ _ _ _ _ _ _
      | exact ih4 _ _ _ _ _ _ _ _ _ _ _ _ _ _ _ _ _ _ _ _ _ _ _ _ _ _
      | exact ih5 _ _ _ _ _ _ _ _ _ _ _ _ _ _ _ _ _ _ _ _ _ _ _
      | exact ih6 _ _ _ _ _ _ _ _ _ _ _ _ _ _ _ _ _ _ _ _ _ _ _ _ _ _ _ _ _ _ _ _ _
      | exact flyleaflaw15_Op_of.mono _ _ _ _ _ _ _ _ _ _ _ _ _
      | exact flyleaflaw15_awake.mono _
      | exact region_Covers.mono _ _ _ _
      | exact region_Find.mono _ _ _
      | exact LeO.none _
      | refine LeO.ite ?_ ?_
      | refine LeO.bind ?_ (fun _ => ?_)
    · intro y0 y1 y2 y3 y4 y5 y6 y7
      unfold flyleaflaw15_RegionKeeps.j1
      repeat' first
      | (with_reducible exact ih0 _ _ _ _ _ _ _)
      | (with_reducible exact ih1 _ _ _ _ _ _ _ _)
      | (with_reducible exact ih2 _ _ _ _ _ _ _ _ _ _ _)
      | (with_reducible exact ih3 _ _ _ _ _ _ _ _ _ _ _ _ _ _ _ _ _ _ _ _ _ _ _ _ _ _)
      | (with_reducible exact ih4 _ _ _ _ _ _ _ _ _ _ _ _ _ _ _ _ _ _ _ _ _ _ _ _ _ _)
      | (with_reducible exact ih5 _ _ _ _ _ _ _ _ _ _ _ _ _ _ _ _ _ _ _ _ _ _ _)
      | (with_reducible exact ih6 _ _ _ _ _ _ _ _ _ _ _ _ _ _ _ _ _ _ _ _ _ _ _ _ _ _ _ _ _ _ _ _ _)
      | (with_reducible exact flyleaflaw15_Op_of.mono _ _ _ _ _ _ _ _ _ _ _ _ _)
      | (with_reducible exact flyleaflaw15_awake.mono _)
      | (with_reducible exact region_Covers.mono _ _ _ _)
      | (with_reducible exact region_Find.mono _ _ _)
      | (with_reducible exact LeO.refl _)
      | (with_reducible exact LeO.none _)
      | (with_reducible refine LeO.ite ?_ ?_)
      | (with_reducible refine LeO.bind ?_ (fun _ => ?_))
      | exact ih0 _ _ _ _ _ _ _
      | exact ih1 _ _ _ _ _ _ _ _
      | exact ih2 _ _ _ _ _ _ _ _ _ _ _
      | exact ih3 _ _ _ _ _ _ _ _ _ _ _ _ _ _ _ _ _ _ _ _ _ _ _ _ _ _
      | exact ih4 _ _ _ _ _ _ _ _ _ _ _ _ _ _ _ _ _ _ _ _ _ _ _ _ _ _
      | exact ih5 _ _ _ _ _ _ _ _ _ _ _ _ _ _ _ _ _ _ _ _ _ _ _
      | exact ih6 _ _ _ _ _ _ _ _ _ _ _ _ _ _ _ _ _ _ _ _ _ _ _ _ _ _ _ _ _ _ _ _ _
      | exact flyleaflaw15_Op_of.mono _ _ _ _ _ _ _ _ _ _ _ _ _
      | exact flyleaflaw15_awake.mono _
      | exact region_Covers.mono _ _ _ _
      | exact region_Find.mono _ _ _
      | exact LeO.none _
      | refine LeO.ite ?_ ?_
      | refine LeO.bind ?_ (fun _ => ?_)
    · intro y0 y1 y2 y3 y4 y5 y6 y7 y8 y9 y10
      unfold flyleaflaw15_RegionKeeps.l1
      repeat' first
      | (with_reducible exact ih0 _ _ _ _ _ _ _)
      | (with_reducible exact ih1 _ _ _ _ _ _ _ _)
      | (with_reducible exact ih2 _ _ _ _ _ _ _ _ _ _ _)
      | (with_reducible exact ih3 _ _ _ _ _ _ _ _ _ _ _ _ _ _ _ _ _ _ _ _ _ _ _ _ _ _)
      | (with_reducible exact ih4 _ _ _ _ _ _ _ _ _ _ _ _ _ _ _ _ _ _ _ _ _ _ _ _ _ _)
      | (with_reducible exact ih5 _ _ _ _ _ _ _ _ _ _ _ _ _ _ _ _ _ _ _ _ _ _ _)
      | (with_reducible exact ih6 _ _ _ _ _ _ _ _ _ _ _ _ _ _ _ _ _ _ _ _ _ _ _ _ _ _ _ _ _ _ _ _ _)
      | (with_reducible exact flyleaflaw15_Op_of.mono _ _ _ _ _ _ _ _ _ _ _ _ _)
      | (with_reducible exact flyleaflaw15_awake.mono _)
      | (with_reducible exact region_Covers.mono _ _ _ _)
      | (with_reducible exact region_Find.mono _ _ _)
      | (with_reducible exact LeO.refl _)
      | (with_reducible exact LeO.none _)
      | (with_reducible refine LeO.ite ?_ ?_)
      | (with_reducible refine LeO.bind ?_ (fun _ => ?_))
      | exact ih0 _ _ _ _ _ _ _
      | exact ih1 _ _ _ _ _ _ _ _
      | exact ih2 _ _ _ _ _ _ _ _ _ _ _
      | exact ih3 _ _ _ _ _ _ _ _ _ _ _ _ _ _ _ _ _ _ _ _ _ _ _ _ _ _
      | exact ih4 _ _ _ _ _ _ _ _ _ _ _ _ _ _ _ _ _ _ _ _ _ _ _ _ _ _
      | exact ih5 _ _ _ _ _ _ _ _ _ _ _ _ _ _ _ _ _ _ _ _ _ _ _
      | exact ih6 _ _ _ _ _ _ _ _ _ _ _ _ _ _ _ _ _ _ _ _ _ _ _ _ _ _ _ _ _ _ _ _ _
      | exact flyleaflaw15_Op_of.mono _ _ _ _ _ _ _ _ _ _ _ _ _
      | exact flyleaflaw15_awake.mono _
      | exact region_Covers.mono _ _ _ _
      | exact region_Find.mono _ _ _
      | exact LeO.none _
      | refine LeO.ite ?_ ?_
      | refine LeO.bind ?_ (fun _ => ?_)
    · intro y0 y1 y2 y3 y4 y5 y6 y7 y8 y9 y10 y11 y12 y13 y14 y15 y16 y17 y18 y19 y20 y21 y22 y23 y24 y25
      unfold flyleaflaw15_RegionKeeps.j3
      repeat' first
      | (with_reducible exact ih0 _ _ _ _ _ _ _)
      | (with_reducible exact ih1 _ _ _ _ _ _ _ _)
      | (with_reducible exact ih2 _ _ _ _ _ _ _ _ _ _ _)
      | (with_reducible exact ih3 _ _ _ _ _ _ _ _ _ _ _ _ _ _ _ _ _ _ _ _ _ _ _ _ _ _)
      | (with_reducible exact ih4 _ _ _ _ _ _ _ _ _ _ _ _ _ _ _ _ _ _ _ _ _ _ _ _ _ _)
      | (with_reducible exact ih5 _ _ _ _ _ _ _ _ _ _ _ _ _ _ _ _ _ _ _ _ _ _ _)
      | (with_reducible exact ih6 _ _ _ _ _ _ _ _ _ _ _ _ _ _ _ _ _ _ _ _ _ _ _ _ _ _ _ _ _ _ _ _ _)
      | (with_reducible exact flyleaflaw15_Op_of.mono _ _ _ _ _ _ _ _ _ _ _ _ _)
      | (with_reducible exact flyleaflaw15_awake.mono _)
      | (with_reducible exact region_Covers.mono _ _ _ _)
      | (with_reducible exact region_Find.mono _ _ _)
      | (with_reducible exact LeO.refl _)
      | (with_reducible exact LeO.none _)
      | (with_reducible refine LeO.ite ?_ ?_)
      | (with_reducible refine LeO.bind ?_ (fun _ => ?_))
      | exact ih0 _ _ _ _ _ _ _
      | exact ih1 _ _ _ _ _ _ _ _
      | exact ih2 _ _ _ _ _ _ _ _ _ _ _
      | exact ih3 _ _ _ _ _ _ _ _ _ _ _ _ _ _ _ _ _ _ _ _ _ _ _ _ _ _
      | exact ih4 _ _ _ _ _ _ _ _ _ _ _ _ _ _ _ _ _ _ _ _ _ _ _ _ _ _
      | exact ih5 _ _ _ _ _ _ _ _ _ _ _ _ _ _ _ _ _ _ _ _ _ _ _
      | exact ih6 _ _ _ _ _ _ _ _ _ _ _ _ _ _ _ _ _ _ _ _ _ _ _ _ _ _ _ _ _ _ _ _ _
      | exact flyleaflaw15_Op_of.mono _ _ _ _ _ _ _ _ _ _ _ _ _
      | exact flyleaflaw15_awake.mono _
      | exact region_Covers.mono _ _ _ _
      | exact region_Find.mono _ _ _
      | exact LeO.none _
      | refine LeO.ite ?_ ?_
      | refine LeO.bind ?_ (fun _ => ?_)
    · intro y0 y1 y2 y3 y4 y5 y6 y7 y8 y9 y10 y11 y12 y13 y14 y15 y16 y17 y18 y19 y20 y21 y22 y23 y24 y25
      unfold flyleaflaw15_RegionKeeps.j4
      repeat' first
      | (with_reducible exact ih0 _ _ _ _ _ _ _)
      | (with_reducible exact ih1 _ _ _ _ _ _ _ _)
      | (with_reducible exact ih2 _ _ _ _ _ _ _ _ _ _ _)
      | (with_reducible exact ih3 _ _ _ _ _ _ _ _ _ _ _ _ _ _ _ _ _ _ _ _ _ _ _ _ _ _)
      | (with_reducible exact ih4 _ _ _ _ _ _ _ _ _ _ _ _ _ _ _ _ _ _ _ _ _ _ _ _ _ _)
      | (with_reducible exact ih5 _ _ _ _ _ _ _ _ _ _ _ _ _ _ _ _ _ _ _ _ _ _ _)
      | (with_reducible exact ih6 _ _ _ _ _ _ _ _ _ _ _ _ _ _ _ _ _ _ _ _ _ _ _ _ _ _ _ _ _ _ _ _ _)
      | (with_reducible exact flyleaflaw15_Op_of.mono _ _ _ _ _ _ _ _ _ _ _ _ _)
      | (with_reducible exact flyleaflaw15_awake.mono _)
      | (with_reducible exact region_Covers.mono _ _ _ _)
      | (with_reducible exact region_Find.mono _ _ _)
      | (with_reducible exact LeO.refl _)
      | (with_reducible exact LeO.none _)
      | (with_reducible refine LeO.ite ?_ ?_)
      | (with_reducible refine LeO.bind ?_ (fun _ => ?_))
      | exact ih0 _ _ _ _ _ _ _
      | exact ih1 _ _ _ _ _ _ _ _
      | exact ih2 _ _ _ _ _ _ _ _ _ _ _
      | exact ih3 _ _ _ _ _ _ _ _ _ _ _ _ _ _ _ _ _ _ _ _ _ _ _ _ _ _
      | exact ih4 _ _ _ _ _ _ _ _ _ _ _ _ _ _ _ _ _ _ _ _ _ _ _ _ _ _
      | exact ih5 _ _ _ _ _ _ _ _ _ _ _ _ _ _ _ _ _ _ _ _ _ _ _
      | exact ih6 _ _ _ _ _ _ _ _ _ _ _ _ _ _ _ _ _ _ _ _ _ _ _ _ _ _ _ _ _ _ _ _ _
      | exact flyleaflaw15_Op_of.mono _ _ _ _ _ _ _ _ _ _ _ _ _
      | exact flyleaflaw15_awake.mono _
      | exact region_Covers.mono _ _ _ _
      | exact region_Find.mono _ _ _
      | exact LeO.none _
      | refine LeO.ite ?_ ?_
      | refine LeO.bind ?_ (fun _ => ?_)
    · intro y0 y1 y2 y3 y4 y5 y6 y7 y8 y9 y10 y11 y12 y13 y14 y15 y16 y17 y18 y19 y20 y21 y22
      unfold flyleaflaw15_RegionKeeps.j5
      repeat' first
      | (with_reducible exact ih0 _ _ _ _ _ _ _)
      | (with_reducible exact ih1 _ _ _ _ _ _ _ _)
      | (with_reducible exact ih2 _ _ _ _ _ _ _ _ _ _ _)
      | (with_reducible exact ih3 _ _ _ _ _ _ _ _ _ _ _ _ _ _ _ _ _ _ _ _ _ _ _ _ _ _)
      | (with_reducible exact ih4 _ _ _ _ _ _ _ _ _ _ _ _ _ _ _ _ _ _ _ _ _ _ _ _ _ _)
      | (with_reducible exact ih5 _ _ _ _ _ _ _ _ _ _ _ _ _ _ _ _ _ _ _ _ _ _ _)
      | (with_reducible exact ih6 _ _ _ _ _ _ _ _ _ _ _ _ _ _ _ _ _ _ _ _ _ _ _ _ _ _ _ _ _ _ _ _ _)
      | (with_reducible exact flyleaflaw15_Op_of.mono _ _ _ _ _ _ _ _ _ _ _ _ _)
      | (with_reducible exact flyleaflaw15_awake.mono _)
      | (with_reducible exact region_Covers.mono _ _ _ _)
      | (with_reducible exact region_Find.mono _ _ _)
      | (with_reducible exact LeO.refl _)
      | (with_reducible exact LeO.none _)
      | (with_reducible refine LeO.ite ?_ ?_)
      | (with_reducible refine LeO.bind ?_ (fun _ => ?_))
      | exact ih0 _ _ _ _ _ _ _
      | exact ih1 _ _ _ _ _ _ _ _
      | exact ih2 _ _ _ _ _ _ _ _ _ _ _
      | exact ih3 _ _ _ _ _ _ _ _ _ _ _ _ _ _ _ _ _ _ _ _ _ _ _ _ _ _
      | exact ih4 _ _ _ _ _ _ _ _ _ _ _ _ _ _ _ _ _ _ _ _ _ _ _ _ _ _
      | exact ih5 _ _ _ _ _ _ _ _ _ _ _ _ _ _ _ _ _ _ _ _ _ _ _
      | exact ih6 _ _ _ _ _ _ _ _ _ _ _ _ _ _ _ _ _ _ _ _ _ _ _ _ _ _ _ _ _ _ _ _ _
      | exact flyleaflaw15_Op_of.mono _ _ _ _ _ _ _ _ _ _ _ _ _
      | exact flyleaflaw15_awake.mono _
      | exact region_Covers.mono _ _ _ _
      | exact region_Find.mono _ _ _
      | exact LeO.none _
      | refine LeO.ite ?_ ?_
      | refine LeO.bind ?_ (fun _ => ?_)
    · intro y0 y1 y2 y3 y4 y5 y6 y7 y8 y9 y10 y11 y12 y13 y14 y15 y16 y17 y18 y19 y20 y21 y22 y23 y24 y25 y26 y27 y28 y29 y30 y31 y32
      unfold flyleaflaw15_RegionKeeps.j6
      repeat' first
      | (with_reducible exact ih0 _ _ _ _ _ _ _)
      | (with_reducible exact ih1 _ _ _ _ _ _ _ _)
      | (with_reducible exact ih2 _ _ _ _ _ _ _ _ _ _ _)
      | (with_reducible exact ih3 _ _ _ _ _ _ _ _ _ _ _ _ _ _ _ _ _ _ _ _ _ _ _ _ _ _)
      | (with_reducible exact ih4 _ _ _ _ _ _ _ _ _ _ _ _ _ _ _ _ _ _ _ _ _ _ _ _ _ _)
      | (with_reducible exact ih5 _ _ _ _ _ _ _ _ _ _ _ _ _ _ _ _ _ _ _ _ _ _ _)
      | (with_reducible exact ih6 _ _ _ _ _ _ _ _ _ _ _ _ _ _ _ _ _ _ _ _ _ _ _ _ _ _ _ _ _ _ _ _ _)
      | (with_reducible exact flyleaflaw15_Op_of.mono _ _ _ _ _ _ _ _ _ _ _ _ _)
      | (with_reducible exact flyleaflaw15_awake.mono _)
      | (with_reducible exact region_Covers.mono _ _ _ _)
      | (with_reducible exact region_Find.mono _ _ _)
      | (with_reducible exact LeO.refl _)
      | (with_reducible exact LeO.none _)
      | (with_reducible refine LeO.ite ?_ ?_)
      | (with_reducible refine LeO.bind ?_ (fun _ => ?_))
      | exact ih0 _ _ _ _ _ _ _
      | exact ih1 _ _ _ _ _ _ _ _
      | exact ih2 _ _ _ _ _ _ _ _ _ _ _
      | exact ih3 _ _ _ _ _ _ _ _ _ _ _ _ _ _ _ _ _ _ _ _ _ _ _ _ _ _
      | exact ih4 _ _ _ _ _ _ _ _ _ _ _ _ _ _ _ _ _ _ _ _ _ _ _ _ _ _
      | exact ih5 _ _ _ _ _ _ _ _ _ _ _ _ _ _ _ _ _ _ _ _ _ _ _
      | exact ih6 _ _ _ _ _ _ _ _ _ _ _ _ _ _ _ _ _ _ _ _ _ _ _ _ _ _ _ _ _ _ _ _ _
      | exact flyleaflaw15_Op_of.mono _ _ _ _ _ _ _ _ _ _ _ _ _
      | exact flyleaflaw15_awake.mono _
      | exact region_Covers.mono _ _ _ _
      | exact region_Find.mono _ _ _
      | exact LeO.none _
      | refine LeO.ite ?_ ?_
      | refine LeO.bind ?_ (fun _ => ?_)
theorem flyleaflaw15_RegionKeeps.mono : ∀ a0 a1 a2 a3 k, LeO (flyleaflaw15_RegionKeeps.f k a0 a1 a2 a3) (flyleaflaw15_RegionKeeps.f (k + 1) a0 a1 a2 a3) := by
  intro a0 a1 a2 a3 k
  obtain ⟨ih0, ih1, ih2, ih3, ih4, ih5, ih6⟩ := flyleaflaw15_RegionKeeps.mono_l k
  unfold flyleaflaw15_RegionKeeps.f
  repeat' first
      | (with_reducible exact ih0 _ _ _ _ _ _ _)
      | (with_reducible exact ih1 _ _ _ _ _ _ _ _)
      | (with_reducible exact ih2 _ _ _ _ _ _ _ _ _ _ _)
      | (with_reducible exact ih3 _ _ _ _ _ _ _ _ _ _ _ _ _ _ _ _ _ _ _ _ _ _ _ _ _ _)
      | (with_reducible exact ih4 _ _ _ _ _ _ _ _ _ _ _ _ _ _ _ _ _ _ _ _ _ _ _ _ _ _)
      | (with_reducible exact ih5 _ _ _ _ _ _ _ _ _ _ _ _ _ _ _ _ _ _ _ _ _ _ _)
      | (with_reducible exact ih6 _ _ _ _ _ _ _ _ _ _ _ _ _ _ _ _ _ _ _ _ _ _ _ _ _ _ _ _ _ _ _ _ _)
      | (with_reducible exact flyleaflaw15_Op_of.mono _ _ _ _ _ _ _ _ _ _ _ _ _)
      | (with_reducible exact flyleaflaw15_awake.mono _)
      | (with_reducible exact region_Covers.mono _ _ _ _)
      | (with_reducible exact region_Find.mono _ _ _)
      | (with_reducible exact LeO.refl _)
      | (with_reducible exact LeO.none _)
      | (with_reducible refine LeO.ite ?_ ?_)
      | (with_reducible refine LeO.bind ?_ (fun _ => ?_))
      | exact ih0 _ _ _ _ _ _ _
      | exact ih1 _ _ _ _ _ _ _ _
      | exact ih2 _ _ _ _ _ _ _ _ _ _ _
      | exact ih3 _ _ _ _ _ _ _ _ _ _ _ _ _ _ _ _ _ _ _ _ _ _ _ _ _ _
      | exact ih4 _ _ _ _ _ _ _ _ _ _ _ _ _ _ _ _ _ _ _ _ _ _ _ _ _ _
      | exact ih5 _ _ _ _ _ _ _ _ _ _ _ _ _ _ _ _ _ _ _ _ _ _ _
      | exact ih6 _ _ _ _ _ _ _ _ _ _ _ _ _ _ _ _ _ _ _ _ _ _ _ _ _ _ _ _ _ _ _ _ _
      | exact flyleaflaw15_Op_of.mono _ _ _ _ _ _ _ _ _ _ _ _ _
      | exact flyleaflaw15_awake.mono _
      | exact region_Covers.mono _ _ _ _
      | exact region_Find.mono _ _ _
      | exact LeO.none _
      | refine LeO.ite ?_ ?_
      | refine LeO.bind ?_ (fun _ => ?_)
end Go.Proofs.Ytafmeagfockdfaa.Rg
