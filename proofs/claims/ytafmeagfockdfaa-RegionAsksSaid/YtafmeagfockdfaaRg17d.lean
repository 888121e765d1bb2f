-- Written by prn.py, a program of this session over the kit's printer. Not trusted: Lean checks it.
import Derived.Test.YtafmeagfockdfaaRg0
import Derived.Test.YtafmeagfockdfaaRg1
import Derived.Test.YtafmeagfockdfaaRg2
import Derived.Test.YtafmeagfockdfaaRg4
import Derived.Test.YtafmeagfockdfaaRg5
import Derived.Test.YtafmeagfockdfaaRg7
import Derived.Test.YtafmeagfockdfaaRg9
import Derived.Test.YtafmeagfockdfaaRg11
import Derived.Test.YtafmeagfockdfaaRg12
import Derived.Test.YtafmeagfockdfaaRg14
import Derived.Test.YtafmeagfockdfaaRg16
namespace Go.Proofs.Ytafmeagfockdfaa.Rg
open Go.RowKit Go.Proofs.YtafmeagfockdfaaW.PrintWords Go.Proofs.YtafmeagfockdfaaW.PrintLast Go.Proofs.YtafmeagfockdfaaW.PrintMore
attribute [local go_sem] max2_int min2_int max_two min_two max_three min_three max_four min_four   -- for this text's walks alone
set_option linter.unusedVariables false
set_option linter.unusedSimpArgs false

attribute [local go_sem high] eqA41 eqA77
/-! ### flyleaflaw15_RegionAsks: function 11 -/
mutual
def flyleaflaw15_RegionAsks.l0 : Nat → List (S69) → Bool → List (S41) → Int → Int → Int → Int → Int → Option (Bool)
  | 0, _, _, _, _, _, _, _, _ => none
  | k + 1, x0, x5, x6, x7, x314000, x314001, x314002, x314003 => if x7 < (x0.length : Int) then (flyleaflaw15_RegionAsks.j1 k x0 x5 x6 x7 (decide (x7 < 15)) x314000 x314001 x314002 x314003) else (flyleaflaw15_RegionAsks.j1 k x0 x5 x6 x7 false x314000 x314001 x314002 x314003)
def flyleaflaw15_RegionAsks.j1 : Nat → List (S69) → Bool → List (S41) → Int → Bool → Int → Int → Int → Int → Option (Bool)
  | 0, _, _, _, _, _, _, _, _, _ => none
  | k + 1, x0, x5, x6, x7, x33, x314000, x314001, x314002, x314003 => if x33 = true then (if 0 ≤ x7 then (if x7 < (x0.length : Int) then ((flyleaflaw15_Op_small.f ((rd_T69 x0 x7).f0) ((rd_T69 x0 x7).f1) ((rd_T69 x0 x7).f2) ((rd_T69 x0 x7).f3) ((rd_T69 x0 x7).f4) ((rd_T69 x0 x7).f5.f0) ((rd_T69 x0 x7).f5.f1) ((rd_T69 x0 x7).f5.f2) ((rd_T69 x0 x7).f5.f3) ((rd_T69 x0 x7).f5.f4) ((rd_T69 x0 x7).f5.f5)).bind fun bt316 => ((flyleaflaw15_Op_of.f k bt316.1 bt316.2.1 bt316.2.2.1 bt316.2.2.2.1 bt316.2.2.2.2.1 bt316.2.2.2.2.2.1 bt316.2.2.2.2.2.2.1 bt316.2.2.2.2.2.2.2.1 bt316.2.2.2.2.2.2.2.2.1 bt316.2.2.2.2.2.2.2.2.2.1 bt316.2.2.2.2.2.2.2.2.2.2 x6).bind fun bt327 => (if bt327.2 = 0 then (flyleaflaw15_RegionAsks.l0 k x0 x5 bt327.1 (wrap64 (x7 + 1)) x314000 x314001 x314002 x314003) else (flyleaflaw15_RegionAsks.l0 k x0 x5 x6 (wrap64 (x7 + 1)) x314000 x314001 x314002 x314003)))) else (none)) else (none)) else ((region_Find.f k x6 x314000).bind fun bt331 => ((flyleafref15_Find.f k x6 x314000).bind fun bt339 => ((region_Gap.f k x6 x314001 x314002 x314003).bind fun bt347 => ((flyleafref15_Gap.f k x6 x314001 x314002 x314003).bind fun bt349 => ((region_Key.f bt331.1 bt331.2.1 bt331.2.2.1 bt331.2.2.2.1 bt331.2.2.2.2.1 bt331.2.2.2.2.2.1 x314000).bind fun bt351 => ((flyleafref15_Key.f bt339.1 bt339.2.1 bt339.2.2.1 bt339.2.2.2.1 bt339.2.2.2.2.1 bt339.2.2.2.2.2.1 x314000).bind fun bt355 => ((flyleafref15_Spread.f k x6).bind fun t359 => (flyleaflaw15_RegionAsks.l1 k x5 x6 bt331.2.2.2.2.2.2 bt339.2.2.2.2.2.2 bt347.1 bt347.2 bt349.1 bt349.2 bt351.2.2 bt355.2.2 0 t359 0 x314000 x314001 x314002 x314003 bt331.1 bt331.2.1 bt331.2.2.1 bt331.2.2.2.1 bt331.2.2.2.2.1 bt331.2.2.2.2.2.1 bt339.1 bt339.2.1 bt339.2.2.1 bt339.2.2.2.1 bt339.2.2.2.2.1 bt339.2.2.2.2.2.1 bt351.1 bt351.2.1 bt355.1 bt355.2.1))))))))
def flyleaflaw15_RegionAsks.l1 : Nat → Bool → List (S41) → Bool → Bool → Int → Bool → Int → Bool → Bool → Bool → Int → List (S87) → Int → Int → Int → Int → Int → Int → Int → Int → Int → Int → Int → Int → Int → Int → Int → Int → Int → Int → Int → Int → Int → Option (Bool)
  | 0, _, _, _, _, _, _, _, _, _, _, _, _, _, _, _, _, _, _, _, _, _, _, _, _, _, _, _, _, _, _, _, _, _ => none
  | k + 1, x5, x6, x11, x13, x14, x15, x16, x17, x19, x21, x22, x23, x24, x314000, x314001, x314002, x314003, x339000, x339001, x339002, x339003, x339004, x339005, x347000, x347001, x347002, x347003, x347004, x347005, x355000, x355001, x359000, x359001 => if x24 < (x23.length : Int) then (if 0 ≤ x24 then (if (rd_T87 x23 x24).f1 = true then (flyleaflaw15_RegionAsks.l1 k x5 x6 x11 x13 x14 x15 x16 x17 x19 x21 (wrap64 (x22 + 1)) x23 (wrap64 (x24 + 1)) x314000 x314001 x314002 x314003 x339000 x339001 x339002 x339003 x339004 x339005 x347000 x347001 x347002 x347003 x347004 x347005 x355000 x355001 x359000 x359001) else (flyleaflaw15_RegionAsks.l1 k x5 x6 x11 x13 x14 x15 x16 x17 x19 x21 x22 x23 (wrap64 (x24 + 1)) x314000 x314001 x314002 x314003 x339000 x339001 x339002 x339003 x339004 x339005 x347000 x347001 x347002 x347003 x347004 x347005 x355000 x355001 x359000 x359001)) else (none)) else (if x5 = true then (if (x339000 == x347000 && (x339001 == x347001 && (x339002 == x347002 && (x339003 == x347003 && (x339004 == x347004 && (x339005 == x347005)))))) = true then (if (x11 == x13) = true then (if x14 = x16 then (if (x15 == x17) = true then (if (x355000 == x359000 && (x355001 == x359001)) = true then (if (x19 == x21) = true then ((region_Covers.f k x6 x314001 x314002).bind fun t363 => ((flyleafref15_Covers.f k x6 x314001 x314002).bind fun t364 => (if (t363 == t364) = true then ((region_Pages.f k x6).bind fun t365 => (some (t365 == x22))) else (some false)))) else (some false)) else (some false)) else (some false)) else (some false)) else (some false)) else (some false)) else (some false))
end
def flyleaflaw15_RegionAsks.f (k : Nat) (l0 : List (S69)) (a1_0 : Int) (a1_1 : Int) (a1_2 : Int) (a1_3 : Int) : Option (Bool) := (flyleaflaw15_awake.f k).bind fun t314 => (flyleaflaw15_RegionAsks.l0 k l0 t314 ([] : List (S41)) 0 a1_0 a1_1 a1_2 a1_3)
theorem flyleaflaw15_RegionAsks.mono_l : ∀ k, (∀ y0 y1 y2 y3 y4 y5 y6 y7, LeO (flyleaflaw15_RegionAsks.l0 k y0 y1 y2 y3 y4 y5 y6 y7) (flyleaflaw15_RegionAsks.l0 (k + 1) y0 y1 y2 y3 y4 y5 y6 y7)) ∧ (∀ y0 y1 y2 y3 y4 y5 y6 y7 y8, LeO (flyleaflaw15_RegionAsks.j1 k y0 y1 y2 y3 y4 y5 y6 y7 y8) (flyleaflaw15_RegionAsks.j1 (k + 1) y0 y1 y2 y3 y4 y5 y6 y7 y8)) ∧ (∀ y0 y1 y2 y3 y4 y5 y6 y7 y8 y9 y10 y11 y12 y13 y14 y15 y16 y17 y18 y19 y20 y21 y22 y23 y24 y25 y26 y27 y28 y29 y30 y31 y32, LeO (flyleaflaw15_RegionAsks.l1 k y0 y1 y2 y3 y4 y5 y6 y7 y8 y9 y10 y11 y12 y13 y14 y15 y16 y17 y18 y19 y20 y21 y22 y23 y24 y25 y26 y27 y28 y29 y30 y31 y32) (flyleaflaw15_RegionAsks.l1 (k + 1) y0 y1 y2 y3 y4 y5 y6 y7 y8 y9 y10 y11 y12 y13 y14 y15 y16 y17 y18 y19 y20 y21 y22 y23 y24 y25 y26 y27 y28 y29 y30 y31 y32))
  | 0 => ⟨fun _ _ _ _ _ _ _ _ r h => by simp [flyleaflaw15_RegionAsks.l0] at h, fun _ _ _ _ _ _ _ _ _ r h => by simp [flyleaflaw15_RegionAsks.j1] at h, fun _ _ _ _ _ _ _ _ _ _ _ _ _ _ _ _ _ _ _ _ _ _ _ _ _ _ _ _ _ _ _ _ _ r h => by simp [flyleaflaw15_RegionAsks.l1] at h⟩
  | k + 1 => by
    obtain ⟨ih0, ih1, ih2⟩ := flyleaflaw15_RegionAsks.mono_l k
    refine ⟨?_, ?_, ?_⟩
    · intro y0 y1 y2 y3 y4 y5 y6 y7
      unfold flyleaflaw15_RegionAsks.l0
      repeat' first
      | (with_reducible exact ih0 _ _ _ _ _ _ _ _)
      | (with_reducible exact ih1 _ _ _ _ _ _ _ _ _)
      | (with_reducible exact ih2 _ _ _ _ _ _ _ _ _ _ _ _ _ _ _ _ _ _ _ _ _ _ _ _ _ _ _ _ _ _ _ _ _)
      | (with_reducible exact flyleaflaw15_Op_of.mono _ _ _ _ _ _ _ _ _ _ _ _ _)
      | (with_reducible exact flyleaflaw15_awake.mono _)
      | (with_reducible exact flyleafref15_Covers.mono _ _ _ _)
      | (with_reducible exact flyleafref15_Find.mono _ _ _)
      | (with_reducible exact flyleafref15_Gap.mono _ _ _ _ _)
      | (with_reducible exact flyleafref15_Spread.mono _ _)
      | (with_reducible exact region_Covers.mono _ _ _ _)
      | (with_reducible exact region_Find.mono _ _ _)
      | (with_reducible exact region_Gap.mono _ _ _ _ _)
      | (with_reducible exact region_Pages.mono _ _)
      | (with_reducible exact LeO.refl _)
      | (with_reducible exact LeO.none _)
      | (with_reducible refine LeO.ite ?_ ?_)
      | (with_reducible refine LeO.bind ?_ (fun _ => ?_))
      | exact ih0 _ _ _ _ _ _ _ _
      | exact ih1 _ _ _ _ _ _ _ _ _
      | exact ih2 _ _ _ _ _ _ _ _ _ _ _ _ _ _ _ _ _ _ _ _ _ _ _ _ _ _ _ _ _ _ _ _ _
      | exact flyleaflaw15_Op_of.mono _ _ _ _ _ _ _ _ _ _ _ _ _
      | exact flyleaflaw15_awake.mono _
      | exact flyleafref15_Covers.mono _ _ _ _
      | exact flyleafref15_Find.mono _ _ _
      | exact flyleafref15_Gap.mono _ _ _ _ _
      | exact flyleafref15_Spread.mono _ _
      | exact region_Covers.mono _ _ _ _
      | exact region_Find.mono _ _ _
      | exact region_Gap.mono _ _ _ _ _
      | exact region_Pages.mono _ _
      | exact LeO.none _
      | refine LeO.ite ?_ ?_
      | refine LeO.bind ?_ (fun _ => ?_)
    · intro y0 y1 y2 y3 y4 y5 y6 y7 y8
      unfold flyleaflaw15_RegionAsks.j1
      repeat' first
      | (with_reducible exact ih0 _ _ _ _ _ _ _ _)
      | (with_reducible exact ih1 _ _ _ _ _ _ _ _ _)
      | (with_reducible exact ih2 _ _ _ _ _ _ _ _ _ _ _ _ _ _ _ _ _ _ _ _ _ _ _ _ _ _ _ _ _ _ _ _ _)
      | (with_reducible exact flyleaflaw15_Op_of.mono _ _ _ _ _ _ _ _ _ _ _ _ _)
      | (with_reducible exact flyleaflaw15_awake.mono _)
      | (with_reducible exact flyleafref15_Covers.mono _ _ _ _)
      | (with_reducible exact flyleafref15_Find.mono _ _ _)
      | (with_reducible exact flyleafref15_Gap.mono _ _ _ _ _)
      | (with_reducible exact flyleafref15_Spread.mono _ _)
      | (with_reducible exact region_Covers.mono _ _ _ _)
      | (with_reducible exact region_Find.mono _ _ _)
      | (with_reducible exact region_Gap.mono _ _ _ _ _)
      | (with_reducible exact region_Pages.mono _ _)
      | (with_reducible exact LeO.refl _)
      | (with_reducible exact LeO.none _)
      | (with_reducible refine LeO.ite ?_ ?_)
      | (with_reducible refine LeO.bind ?_ (fun _ => ?_))
      | exact ih0 _ _ _ _ _ _ _ _
      | exact ih1 _ _ _ _ _ _ _ _ _
      | exact ih2 _ _ _ _ _ _ _ _ _ _ _ _ _ _ _ _ _ _ _ _ _ _ _ _ _ _ _ _ _ _ _ _ _
      | exact flyleaflaw15_Op_of.mono _ _ _ _ _ _ _ _ _ _ _ _ _
      | exact flyleaflaw15_awake.mono _
      | exact flyleafref15_Covers.mono _ _ _ _
      | exact flyleafref15_Find.mono _ _ _
      | exact flyleafref15_Gap.mono _ _ _ _ _
      | exact flyleafref15_Spread.mono _ _
      | exact region_Covers.mono _ _ _ _
      | exact region_Find.mono _ _ _
      | exact region_Gap.mono _ _ _ _ _
      | exact region_Pages.mono _ _
      | exact LeO.none _
      | refine LeO.ite ?_ ?_
      | refine LeO.bind ?_ (fun _ => ?_)
    · intro y0 y1 y2 y3 y4 y5 y6 y7 y8 y9 y10 y11 y12 y13 y14 y15 y16 y17 y18 y19 y20 y21 y22 y23 y24 y25 y26 y27 y28 y29 y30 y31 y32
      unfold flyleaflaw15_RegionAsks.l1
      repeat' first
      | (with_reducible exact ih0 _ _ _ _ _ _ _ _)
      | (with_reducible exact ih1 _ _ _ _ _ _ _ _ _)
      | (with_reducible exact ih2 _ _ _ _ _ _ _ _ _ _ _ _ _ _ _ _ _ _ _ _ _ _ _ _ _ _ _ _ _ _ _ _ _)
      | (with_reducible exact flyleaflaw15_Op_of.mono _ _ _ _ _ _ _ _ _ _ _ _ _)
      | (with_reducible exact flyleaflaw15_awake.mono _)
      | (with_reducible exact flyleafref15_Covers.mono _ _ _ _)
      | (with_reducible exact flyleafref15_Find.mono _ _ _)
      | (with_reducible exact flyleafref15_Gap.mono _ _ _ _ _)
      | (with_reducible exact flyleafref15_Spread.mono _ _)
      | (with_reducible exact region_Covers.mono _ _ _ _)
      | (with_reducible exact region_Find.mono _ _ _)
      | (with_reducible exact region_Gap.mono _ _ _ _ _)
      | (with_reducible exact region_Pages.mono _ _)
      | (with_reducible exact LeO.refl _)
      | (with_reducible exact LeO.none _)
      | (with_reducible refine LeO.ite ?_ ?_)
      | (with_reducible refine LeO.bind ?_ (fun _ => ?_))
      | exact ih0 _ _ _ _ _ _ _ _
      | exact ih1 _ _ _ _ _ _ _ _ _
      | exact ih2 _ _ _ _ _ _ _ _ _ _ _ _ _ _ _ _ _ _ _ _ _ _ _ _ _ _ _ _ _ _ _ _ _
      | exact flyleaflaw15_Op_of.mono _ _ _ _ _ _ _ _ _ _ _ _ _
      | exact flyleaflaw15_awake.mono _
      | exact flyleafref15_Covers.mono _ _ _ _
      | exact flyleafref15_Find.mono _ _ _
      | exact flyleafref15_Gap.mono _ _ _ _ _
      | exact flyleafref15_Spread.mono _ _
      | exact region_Covers.mono _ _ _ _
      | exact region_Find.mono _ _ _
      | exact region_Gap.mono _ _ _ _ _
      | exact region_Pages.mono _ _
      | exact LeO.none _
      | refine LeO.ite ?_ ?_
      | refine LeO.bind ?_ (fun _ => ?_)
theorem flyleaflaw15_RegionAsks.mono : ∀ a0 a1 a2 a3 a4 k, LeO (flyleaflaw15_RegionAsks.f k a0 a1 a2 a3 a4) (flyleaflaw15_RegionAsks.f (k + 1) a0 a1 a2 a3 a4) := by
  intro a0 a1 a2 a3 a4 k
  obtain ⟨ih0, ih1, ih2⟩ := flyleaflaw15_RegionAsks.mono_l k
  unfold flyleaflaw15_RegionAsks.f
  repeat' first
      | (with_reducible exact ih0 _ _ _ _ _ _ _ _)
      | (with_reducible exact ih1 _ _ _ _ _ _ _ _ _)
      | (with_reducible exact ih2 _ _ _ _ _ _ _ _ _ _ _ _ _ _ _ _ _ _ _ _ _ _ _ _ _ _ _ _ _ _ _ _ _)
      | (with_reducible exact flyleaflaw15_Op_of.mono _ _ _ _ _ _ _ _ _ _ _ _ _)
      | (with_reducible exact flyleaflaw15_awake.mono _)
      | (with_reducible exact flyleafref15_Covers.mono _ _ _ _)
      | (with_reducible exact flyleafref15_Find.mono _ _ _)
      | (with_reducible exact flyleafref15_Gap.mono _ _ _ _ _)
      | (with_reducible exact flyleafref15_Spread.mono _ _)
      | (with_reducible exact region_Covers.mono _ _ _ _)
      | (with_reducible exact region_Find.mono _ _ _)
      | (with_reducible exact region_Gap.mono _ _ _ _ _)
      | (with_reducible exact region_Pages.mono _ _)
      | (with_reducible exact LeO.refl _)
      | (with_reducible exact LeO.none _)
      | (with_reducible refine LeO.ite ?_ ?_)
      | (with_reducible refine LeO.bind ?_ (fun _ => ?_))
      | exact ih0 _ _ _ _ _ _ _ _
      | exact ih1 _ _ _ _ _ _ _ _ _
      | exact ih2 _ _ _ _ _ _ _ _ _ _ _ _ _ _ _ _ _ _ _ _ _ _ _ _ _ _ _ _ _ _ _ _ _
      | exact flyleaflaw15_Op_of.mono _ _ _ _ _ _ _ _ _ _ _ _ _
      | exact flyleaflaw15_awake.mono _
      | exact flyleafref15_Covers.mono _ _ _ _
      | exact flyleafref15_Find.mono _ _ _
      | exact flyleafref15_Gap.mono _ _ _ _ _
      | exact flyleafref15_Spread.mono _ _
      | exact region_Covers.mono _ _ _ _
      | exact region_Find.mono _ _ _
      | exact region_Gap.mono _ _ _ _ _
      | exact region_Pages.mono _ _
      | exact LeO.none _
      | refine LeO.ite ?_ ?_
      | refine LeO.bind ?_ (fun _ => ?_)
abbrev z0_ : Array Bool := #[false,false,false,false,false,false,false,false,false,false,false,false,false,false,false,false,false,false,false,false,false,false,false,false,false,false,false,false,false,false,false,false,false,false,false,false,false,false,false,false,false,false,false,false,false,false,false,false,false,false,false,false,false]
abbrev z1_ : Array Bool := #[true,false,false,false,false,false,false,false,false,false,false,false,false,false,false,false,false,false,false,false,false,false,false,false,false,false,false,false,false,false,false,false,false,false,false,false,false,false,false,false,false,false,false,false,false,false,false,false,false,false,false,false,false]
abbrev z2_ : Array Bool := #[true,true,false,false,false,false,false,false,false,false,false,false,false,false,false,false,false,false,false,false,false,false,false,false,false,false,false,false,false,false,false,false,false,false,false,false,false,false,false,false,false,false,false,false,false,false,false,false,false,false,false,false,false]
abbrev z3_ : Array Bool := #[true,true,true,false,false,false,false,false,false,false,false,false,false,false,false,false,false,false,false,false,false,false,false,false,false,false,false,false,false,false,false,false,false,false,false,false,false,false,false,false,false,false,false,false,false,false,false,false,false,false,false,false,false]
abbrev z4_ : Array Bool := #[true,true,true,true,false,false,false,false,false,false,false,false,false,false,false,false,false,false,false,false,false,false,false,false,false,false,false,false,false,false,false,false,false,false,false,false,false,false,false,false,false,false,false,false,false,false,false,false,false,false,false,false,false]
abbrev z5_ : Array Bool := #[true,true,true,true,true,false,false,false,false,false,false,false,false,false,false,false,false,false,false,false,false,false,false,false,false,false,false,false,false,false,false,false,false,false,false,false,false,false,false,false,false,false,false,false,false,false,false,false,false,false,false,false,false]
abbrev z6_ : Array Bool := #[true,true,true,true,true,true,false,false,false,false,false,false,false,false,false,false,false,false,false,false,false,false,false,false,false,false,false,false,false,false,false,false,false,false,false,false,false,false,false,false,false,false,false,false,false,false,false,false,false,false,false,false,false]
abbrev z7_ : Array Bool := #[true,true,true,true,true,true,true,false,false,false,false,false,false,false,false,false,false,false,false,false,false,false,false,false,false,false,false,false,false,false,false,false,false,false,false,false,false,false,false,false,false,false,false,false,false,false,false,false,false,false,false,false,false]
abbrev z8_ : Array Bool := #[true,true,true,true,true,true,true,true,false,false,false,false,false,false,false,false,false,false,false,false,false,false,false,false,false,false,false,false,false,false,false,false,false,false,false,false,false,false,false,false,false,false,false,false,false,false,false,false,false,false,false,false,false]
abbrev z9_ : Array Bool := #[true,true,true,true,true,true,true,true,true,false,false,false,false,false,false,false,false,false,false,false,false,false,false,false,false,false,false,false,false,false,false,false,false,false,false,false,false,false,false,false,false,false,false,false,false,false,false,false,false,false,false,false,false]
abbrev z10_ : Array Bool := #[true,true,true,true,true,true,true,true,true,true,false,false,false,false,false,false,false,false,false,false,false,false,false,false,false,false,false,false,false,false,false,false,false,false,false,false,false,false,false,false,false,false,false,false,false,false,false,false,false,false,false,false,false]
abbrev z11_ : Array Bool := #[true,true,true,true,true,true,true,true,true,true,true,false,false,false,false,false,false,false,false,false,false,false,false,false,false,false,false,false,false,false,false,false,false,false,false,false,false,false,false,false,false,false,false,false,false,false,false,false,false,false,false,false,false]
abbrev z12_ : Array Bool := #[true,true,true,true,true,true,true,true,true,true,true,true,false,false,false,false,false,false,false,false,false,false,false,false,false,false,false,false,false,false,false,false,false,false,false,false,false,false,false,false,false,false,false,false,false,false,false,false,false,false,false,false,false]
abbrev z13_ : Array Bool := #[true,true,true,true,true,true,true,true,true,true,true,true,true,false,false,false,false,false,false,false,false,false,false,false,false,false,false,false,false,false,false,false,false,false,false,false,false,false,false,false,false,false,false,false,false,false,false,false,false,false,false,false,false]
abbrev z14_ : Array Bool := #[true,true,true,true,true,true,true,true,true,true,true,true,true,true,false,false,false,false,false,false,false,false,false,false,false,false,false,false,false,false,false,false,false,false,false,false,false,false,false,false,false,false,false,false,false,false,false,false,false,false,false,false,false]
abbrev z15_ : Array Bool := #[true,true,true,true,true,true,true,true,true,true,true,true,true,true,true,false,false,false,false,false,false,false,false,false,false,false,false,false,false,false,false,false,false,false,false,false,false,false,false,false,false,false,false,false,false,false,false,false,false,false,false,false,false]
abbrev z16_ : Array Bool := #[true,true,true,true,true,true,true,true,true,true,true,true,true,true,true,true,false,false,false,false,false,false,false,false,false,false,false,false,false,false,false,false,false,false,false,false,false,false,false,false,false,false,false,false,false,false,false,false,false,false,false,false,false]
abbrev z17_ : Array Bool := #[true,true,true,true,true,true,true,true,true,true,true,true,true,true,true,true,true,false,false,false,false,false,false,false,false,false,false,false,false,false,false,false,false,false,false,false,false,false,false,false,false,false,false,false,false,false,false,false,false,false,false,false,false]
abbrev z18_ : Array Bool := #[true,true,true,true,true,true,true,true,true,true,true,true,true,true,true,true,true,true,false,false,false,false,false,false,false,false,false,false,false,false,false,false,false,false,false,false,false,false,false,false,false,false,false,false,false,false,false,false,false,false,false,false,false]
abbrev z19_ : Array Bool := #[true,true,true,true,true,true,true,true,true,true,true,true,true,true,true,true,true,true,true,false,false,false,false,false,false,false,false,false,false,false,false,false,false,false,false,false,false,false,false,false,false,false,false,false,false,false,false,false,false,false,false,false,false]
abbrev z20_ : Array Bool := #[true,true,true,true,true,true,true,true,true,true,true,true,true,true,true,true,true,true,true,true,false,false,false,false,false,false,false,false,false,false,false,false,false,false,false,false,false,false,false,false,false,false,false,false,false,false,false,false,false,false,false,false,false]
abbrev z21_ : Array Bool := #[true,true,true,true,true,true,true,true,true,true,true,true,true,true,true,true,true,true,true,true,true,false,false,false,false,false,false,false,false,false,false,false,false,false,false,false,false,false,false,false,false,false,false,false,false,false,false,false,false,false,false,false,false]
abbrev z22_ : Array Bool := #[true,true,true,true,true,true,true,true,true,true,true,true,true,true,true,true,true,true,true,true,true,true,false,false,false,false,false,false,false,false,false,false,false,false,false,false,false,false,false,false,false,false,false,false,false,false,false,false,false,false,false,false,false]
abbrev z23_ : Array Bool := #[true,true,true,true,true,true,true,true,true,true,true,true,true,true,true,true,true,true,true,true,true,true,true,false,false,false,false,false,false,false,false,false,false,false,false,false,false,false,false,false,false,false,false,false,false,false,false,false,false,false,false,false,false]
abbrev z24_ : Array Bool := #[true,true,true,true,true,true,true,true,true,true,true,true,true,true,true,true,true,true,true,true,true,true,true,true,false,false,false,false,false,false,false,false,false,false,false,false,false,false,false,false,false,false,false,false,false,false,false,false,false,false,false,false,false]
abbrev z25_ : Array Bool := #[true,true,true,true,true,true,true,true,true,true,true,true,true,true,true,true,true,true,true,true,true,true,true,true,true,false,false,false,false,false,false,false,false,false,false,false,false,false,false,false,false,false,false,false,false,false,false,false,false,false,false,false,false]
abbrev z26_ : Array Bool := #[true,true,true,true,true,true,true,true,true,true,true,true,true,true,true,true,true,true,true,true,true,true,true,true,true,true,false,false,false,false,false,false,false,false,false,false,false,false,false,false,false,false,false,false,false,false,false,false,false,false,false,false,false]
abbrev z27_ : Array Bool := #[true,true,true,true,true,true,true,true,true,true,true,true,true,true,true,true,true,true,true,true,true,true,true,true,true,true,true,false,false,false,false,false,false,false,false,false,false,false,false,false,false,false,false,false,false,false,false,false,false,false,false,false,false]
abbrev z28_ : Array Bool := #[true,true,true,true,true,true,true,true,true,true,true,true,true,true,true,true,true,true,true,true,true,true,true,true,true,true,true,true,false,false,false,false,false,false,false,false,false,false,false,false,false,false,false,false,false,false,false,false,false,false,false,false,false]
abbrev z29_ : Array Bool := #[true,true,true,true,true,true,true,true,true,true,true,true,true,true,true,true,true,true,true,true,true,true,true,true,true,true,true,true,true,false,false,false,false,false,false,false,false,false,false,false,false,false,false,false,false,false,false,false,false,false,false,false,false]
abbrev z30_ : Array Bool := #[true,true,true,true,true,true,true,true,true,true,true,true,true,true,true,true,true,true,true,true,true,true,true,true,true,true,true,true,true,true,false,false,false,false,false,false,false,false,false,false,false,false,false,false,false,false,false,false,false,false,false,false,false]
abbrev z31_ : Array Bool := #[true,true,true,true,true,true,true,true,true,true,true,true,true,true,true,true,true,true,true,true,true,true,true,true,true,true,true,true,true,true,true,false,false,false,false,false,false,false,false,false,false,false,false,false,false,false,false,false,false,false,false,false,false]
abbrev z32_ : Array Bool := #[true,true,true,true,true,true,true,true,true,true,true,true,true,true,true,true,true,true,true,true,true,true,true,true,true,true,true,true,true,true,true,true,false,false,false,false,false,false,false,false,false,false,false,false,false,false,false,false,false,false,false,false,false]
abbrev z33_ : Array Bool := #[true,true,true,true,true,true,true,true,true,true,true,true,true,true,true,true,true,true,true,true,true,true,true,true,true,true,true,true,true,true,true,true,true,false,false,false,false,false,false,false,false,false,false,false,false,false,false,false,false,false,false,false,false]
abbrev z34_ : Array Bool := #[true,true,true,true,true,true,true,true,true,true,true,true,true,true,true,true,true,true,true,true,true,true,true,true,true,true,true,true,true,true,true,true,true,true,false,false,false,false,false,false,false,false,false,false,false,false,false,false,false,false,false,false,false]
abbrev z35_ : Array Bool := #[true,true,true,true,true,true,true,true,true,true,true,true,true,true,true,true,true,true,true,true,true,true,true,true,true,true,true,true,true,true,true,true,true,true,true,false,false,false,false,false,false,false,false,false,false,false,false,false,false,false,false,false,false]
abbrev z36_ : Array Bool := #[true,true,true,true,true,true,true,true,true,true,true,true,true,true,true,true,true,true,true,true,true,true,true,true,true,true,true,true,true,true,true,true,true,true,true,true,false,false,false,false,false,false,false,false,false,false,false,false,false,false,false,false,false]
abbrev z37_ : Array Bool := #[true,true,true,true,true,true,true,true,true,true,true,true,true,true,true,true,true,true,true,true,true,true,true,true,true,true,true,true,true,true,true,true,true,true,true,true,true,false,false,false,false,false,false,false,false,false,false,false,false,false,false,false,false]
abbrev z38_ : Array Bool := #[true,true,true,true,true,true,true,true,true,true,true,true,true,true,true,true,true,true,true,true,true,true,true,true,true,true,true,true,true,true,true,true,true,true,true,true,true,true,false,false,false,false,false,false,false,false,false,false,false,false,false,false,false]
abbrev z39_ : Array Bool := #[true,true,true,true,true,true,true,true,true,true,true,true,true,true,true,true,true,true,true,true,true,true,true,true,true,true,true,true,true,true,true,true,true,true,true,true,true,true,true,false,false,false,false,false,false,false,false,false,false,false,false,false,false]
abbrev z40_ : Array Bool := #[true,true,true,true,true,true,true,true,true,true,true,true,true,true,true,true,true,true,true,true,true,true,true,true,true,true,true,true,true,true,true,true,true,true,true,true,true,true,true,true,false,false,false,false,false,false,false,false,false,false,false,false,false]
abbrev z41_ : Array Bool := #[true,true,true,true,true,true,true,true,true,true,true,true,true,true,true,true,true,true,true,true,true,true,true,true,true,true,true,true,true,true,true,true,true,true,true,true,true,true,true,true,true,false,false,false,false,false,false,false,false,false,false,false,false]
abbrev z42_ : Array Bool := #[true,true,true,true,true,true,true,true,true,true,true,true,true,true,true,true,true,true,true,true,true,true,true,true,true,true,true,true,true,true,true,true,true,true,true,true,true,true,true,true,true,true,false,false,false,false,false,false,false,false,false,false,false]
abbrev z43_ : Array Bool := #[true,true,true,true,true,true,true,true,true,true,true,true,true,true,true,true,true,true,true,true,true,true,true,true,true,true,true,true,true,true,true,true,true,true,true,true,true,true,true,true,true,true,true,false,false,false,false,false,false,false,false,false,false]
abbrev z44_ : Array Bool := #[true,true,true,true,true,true,true,true,true,true,true,true,true,true,true,true,true,true,true,true,true,true,true,true,true,true,true,true,true,true,true,true,true,true,true,true,true,true,true,true,true,true,true,true,false,false,false,false,false,false,false,false,false]
abbrev z45_ : Array Bool := #[true,true,true,true,true,true,true,true,true,true,true,true,true,true,true,true,true,true,true,true,true,true,true,true,true,true,true,true,true,true,true,true,true,true,true,true,true,true,true,true,true,true,true,true,true,false,false,false,false,false,false,false,false]
abbrev z46_ : Array Bool := #[true,true,true,true,true,true,true,true,true,true,true,true,true,true,true,true,true,true,true,true,true,true,true,true,true,true,true,true,true,true,true,true,true,true,true,true,true,true,true,true,true,true,true,true,true,true,false,false,false,false,false,false,false]
abbrev z47_ : Array Bool := #[true,true,true,true,true,true,true,true,true,true,true,true,true,true,true,true,true,true,true,true,true,true,true,true,true,true,true,true,true,true,true,true,true,true,true,true,true,true,true,true,true,true,true,true,true,true,true,false,false,false,false,false,false]
abbrev z48_ : Array Bool := #[true,true,true,true,true,true,true,true,true,true,true,true,true,true,true,true,true,true,true,true,true,true,true,true,true,true,true,true,true,true,true,true,true,true,true,true,true,true,true,true,true,true,true,true,true,true,true,true,false,false,false,false,false]
abbrev z49_ : Array Bool := #[true,true,true,true,true,true,true,true,true,true,true,true,true,true,true,true,true,true,true,true,true,true,true,true,true,true,true,true,true,true,true,true,true,true,true,true,true,true,true,true,true,true,true,true,true,true,true,true,true,false,false,false,false]
abbrev z50_ : Array Bool := #[true,true,true,true,true,true,true,true,true,true,true,true,true,true,true,true,true,true,true,true,true,true,true,true,true,true,true,true,true,true,true,true,true,true,true,true,true,true,true,true,true,true,true,true,true,true,true,true,true,true,false,false,false]
abbrev z51_ : Array Bool := #[true,true,true,true,true,true,true,true,true,true,true,true,true,true,true,true,true,true,true,true,true,true,true,true,true,true,true,true,true,true,true,true,true,true,true,true,true,true,true,true,true,true,true,true,true,true,true,true,true,true,true,false,false]
abbrev z52_ : Array Bool := #[true,true,true,true,true,true,true,true,true,true,true,true,true,true,true,true,true,true,true,true,true,true,true,true,true,true,true,true,true,true,true,true,true,true,true,true,true,true,true,true,true,true,true,true,true,true,true,true,true,true,true,true,false]
abbrev z53_ : Array Bool := #[true,true,true,true,true,true,true,true,true,true,true,true,true,true,true,true,true,true,true,true,true,true,true,true,true,true,true,true,true,true,true,true,true,true,true,true,true,true,true,true,true,true,true,true,true,true,true,true,true,true,true,true,true]
abbrev z54_ : Array Bool := #[true,true,true,true,true,true,true,true,true,true,true,true,true,true,true,true,true,true,true,true,true,true,true,true,true,true,true,true,true,true,true,true,true,true,false,true,false,false,false,false,false,false,false,false,false,false,false,false,false,false,false,false,false]
abbrev z55_ : Array Bool := #[true,true,true,true,true,true,true,true,true,true,true,true,true,true,true,true,true,true,true,true,true,true,true,true,true,true,true,true,true,true,true,true,true,true,false,true,false,false,true,false,false,false,false,false,false,false,false,false,false,false,false,false,false]
abbrev z56_ : Array Bool := #[true,true,true,true,true,true,true,true,true,true,true,true,true,true,true,true,true,true,true,true,true,true,true,true,true,true,true,true,true,true,true,true,true,true,false,true,false,false,true,true,false,false,false,false,false,false,false,false,false,false,false,false,false]
abbrev z57_ : Array Bool := #[true,true,true,true,true,true,true,true,true,true,true,true,true,true,true,true,true,true,true,true,true,true,true,true,true,true,true,true,true,true,true,true,true,true,false,true,false,false,true,true,false,true,false,false,false,false,false,false,false,false,false,false,false]
abbrev z58_ : Array Bool := #[true,true,true,true,true,true,true,true,true,true,true,true,true,true,true,true,true,true,true,true,true,true,true,true,true,true,true,true,true,true,true,true,true,true,true,true,false,false,true,true,false,true,false,false,false,false,false,false,false,false,false,false,false]
abbrev z59_ : Array Bool := #[true,true,true,true,true,true,true,true,true,true,true,true,true,true,true,true,true,true,true,true,true,true,true,true,true,true,true,true,true,true,true,true,true,true,true,true,true,false,true,true,false,true,false,false,false,false,false,false,false,false,false,false,false]
abbrev z60_ : Array Bool := #[true,true,true,true,true,true,true,true,true,true,true,true,true,true,true,true,true,true,true,true,true,true,true,true,true,true,true,true,true,true,true,true,true,true,true,true,true,false,true,true,true,true,false,false,false,false,false,false,false,false,false,false,false]
abbrev z61_ : Array Bool := #[true,true,true,true,true,true,true,true,true,true,true,true,true,true,true,true,true,true,true,true,true,true,true,true,true,true,true,true,true,true,true,true,true,true,true,true,true,false,true,true,true,true,true,false,false,false,false,false,false,false,false,false,false]
abbrev z62_ : Array Bool := #[true,true,true,true,true,true,true,true,true,true,true,true,true,true,true,true,true,true,true,true,true,true,true,true,true,true,true,true,true,true,true,true,true,true,true,true,true,true,true,true,true,true,true,true,true,true,true,true,false,true,false,false,false]
end Go.Proofs.Ytafmeagfockdfaa.Rg
