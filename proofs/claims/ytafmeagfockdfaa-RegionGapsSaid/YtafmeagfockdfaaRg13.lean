-- Written by prn.py, a program of this session over the kit's printer. Not trusted: Lean checks it.
import Derived.Test.YtafmeagfockdfaaRg0
import Derived.Test.YtafmeagfockdfaaRg5
import Derived.Test.YtafmeagfockdfaaRg7
import Derived.Test.YtafmeagfockdfaaRg11
import Derived.Test.YtafmeagfockdfaaRg12
import Derived.Test.YtafmeagfockdfaaSq
namespace Go.Proofs.Ytafmeagfockdfaa.Rg
open Go.Proofs.Ytafmeagfockdfaa.Sq
open Go.RowKit Go.Proofs.YtafmeagfockdfaaW.PrintWords Go.Proofs.YtafmeagfockdfaaW.PrintLast Go.Proofs.YtafmeagfockdfaaW.PrintMore
attribute [local go_sem] max2_int min2_int max_two min_two max_three min_three max_four min_four   -- for this text's walks alone
set_option linter.unusedVariables false
set_option linter.unusedSimpArgs false

/-! ### flyleaflaw15_RegionGaps: function 10 -/
mutual
def flyleaflaw15_RegionGaps.l0 : Nat → List (S69) → Bool → List (S41) → Int → Int → Int → Int → Option (Bool)
  | 0, _, _, _, _, _, _, _ => none
  | k + 1, x0, x5, x6, x7, x212000, x212001, x212002 => if x7 < (x0.length : Int) then (flyleaflaw15_RegionGaps.j1 k x0 x5 x6 x7 (decide (x7 < 10)) x212000 x212001 x212002) else (flyleaflaw15_RegionGaps.j1 k x0 x5 x6 x7 false x212000 x212001 x212002)
def flyleaflaw15_RegionGaps.j1 : Nat → List (S69) → Bool → List (S41) → Int → Bool → Int → Int → Int → Option (Bool)
  | 0, _, _, _, _, _, _, _, _ => none
  | k + 1, x0, x5, x6, x7, x28, x212000, x212001, x212002 => if x28 = true then (if 0 ≤ x7 then (if x7 < (x0.length : Int) then ((flyleaflaw15_Op_small.f ((rd_T69 x0 x7).f0) ((rd_T69 x0 x7).f1) ((rd_T69 x0 x7).f2) ((rd_T69 x0 x7).f3) ((rd_T69 x0 x7).f4) ((rd_T69 x0 x7).f5.f0) ((rd_T69 x0 x7).f5.f1) ((rd_T69 x0 x7).f5.f2) ((rd_T69 x0 x7).f5.f3) ((rd_T69 x0 x7).f5.f4) ((rd_T69 x0 x7).f5.f5)).bind fun bt214 => ((flyleaflaw15_Op_of.f k bt214.1 bt214.2.1 bt214.2.2.1 bt214.2.2.2.1 bt214.2.2.2.2.1 bt214.2.2.2.2.2.1 bt214.2.2.2.2.2.2.1 bt214.2.2.2.2.2.2.2.1 bt214.2.2.2.2.2.2.2.2.1 bt214.2.2.2.2.2.2.2.2.2.1 bt214.2.2.2.2.2.2.2.2.2.2 x6).bind fun bt225 => (if bt225.2 = 0 then (flyleaflaw15_RegionGaps.l0 k x0 x5 bt225.1 (wrap64 (x7 + 1)) x212000 x212001 x212002) else (flyleaflaw15_RegionGaps.l0 k x0 x5 x6 (wrap64 (x7 + 1)) x212000 x212001 x212002)))) else (none)) else (none)) else ((region_Gap.f k x6 (Go.bits .and .i64 x212000 63) (Go.bits .and .i64 x212001 127) (wrap64 (1 + (Go.bits .and .i64 x212002 15)))).bind fun bt229 => (flyleaflaw15_RegionGaps.l1 k x5 x6 (Go.bits .and .i64 x212000 63) (Go.bits .and .i64 x212001 127) (wrap64 (1 + (Go.bits .and .i64 x212002 15))) bt229.1 bt229.2 (Go.bits .and .i64 x212000 63)))
def flyleaflaw15_RegionGaps.l1 : Nat → Bool → List (S41) → Int → Int → Int → Int → Bool → Int → Option (Bool)
  | 0, _, _, _, _, _, _, _, _ => none
  | k + 1, x5, x6, x10, x11, x12, x13, x14, x15 => if (wrap64 (x15 + x12)) ≤ x11 then (if x14 = true then (flyleaflaw15_RegionGaps.j3 k x5 x6 x10 x11 x12 x13 x14 x15 (decide (x15 ≤ x13))) else (flyleaflaw15_RegionGaps.j3 k x5 x6 x10 x11 x12 x13 x14 x15 true)) else (flyleaflaw15_RegionGaps.j3 k x5 x6 x10 x11 x12 x13 x14 x15 false)
def flyleaflaw15_RegionGaps.j3 : Nat → Bool → List (S41) → Int → Int → Int → Int → Bool → Int → Bool → Option (Bool)
  | 0, _, _, _, _, _, _, _, _, _ => none
  | k + 1, x5, x6, x10, x11, x12, x13, x14, x15, x76 => if x76 = true then (flyleaflaw15_RegionGaps.l2 k x5 x6 x10 x11 x12 x13 x14 x15 true x15) else (if x5 = true then (if x14 = true then (if x13 ≥ x10 then (some (decide ((wrap64 (x13 + x12)) ≤ x11))) else (some false)) else (if x13 = 0 then (some true) else (some false))) else (some false))
def flyleaflaw15_RegionGaps.l2 : Nat → Bool → List (S41) → Int → Int → Int → Int → Bool → Int → Bool → Int → Option (Bool)
  | 0, _, _, _, _, _, _, _, _, _, _ => none
  | k + 1, x5, x6, x10, x11, x12, x13, x14, x15, x16, x17 => if x17 < (wrap64 (x15 + x12)) then ((region_Find.f k x6 x17).bind fun bt231 => (if x16 = true then (flyleaflaw15_RegionGaps.l2 k x5 x6 x10 x11 x12 x13 x14 x15 (!bt231.2.2.2.2.2.2) (wrap64 (x17 + 1))) else (flyleaflaw15_RegionGaps.l2 k x5 x6 x10 x11 x12 x13 x14 x15 false (wrap64 (x17 + 1))))) else (if x14 = true then (if (x16 != (x15 == x13)) = true then (some false) else (flyleaflaw15_RegionGaps.l1 k x5 x6 x10 x11 x12 x13 x14 (wrap64 (x15 + 1)))) else (if (x16 != false) = true then (some false) else (flyleaflaw15_RegionGaps.l1 k x5 x6 x10 x11 x12 x13 x14 (wrap64 (x15 + 1)))))
end
def flyleaflaw15_RegionGaps.f (k : Nat) (l0 : List (S69)) (a1_0 : Int) (a1_1 : Int) (a1_2 : Int) : Option (Bool) := (flyleaflaw15_awake.f k).bind fun t212 => (flyleaflaw15_RegionGaps.l0 k l0 t212 ([] : List (S41)) 0 a1_0 a1_1 a1_2)
theorem flyleaflaw15_RegionGaps.mono_l : ∀ k, (∀ y0 y1 y2 y3 y4 y5 y6, LeO (flyleaflaw15_RegionGaps.l0 k y0 y1 y2 y3 y4 y5 y6) (flyleaflaw15_RegionGaps.l0 (k + 1) y0 y1 y2 y3 y4 y5 y6)) ∧ (∀ y0 y1 y2 y3 y4 y5 y6 y7, LeO (flyleaflaw15_RegionGaps.j1 k y0 y1 y2 y3 y4 y5 y6 y7) (flyleaflaw15_RegionGaps.j1 (k + 1) y0 y1 y2 y3 y4 y5 y6 y7)) ∧ (∀ y0 y1 y2 y3 y4 y5 y6 y7, LeO (flyleaflaw15_RegionGaps.l1 k y0 y1 y2 y3 y4 y5 y6 y7) (flyleaflaw15_RegionGaps.l1 (k + 1) y0 y1 y2 y3 y4 y5 y6 y7)) ∧ (∀ y0 y1 y2 y3 y4 y5 y6 y7 y8, LeO (flyleaflaw15_RegionGaps.j3 k y0 y1 y2 y3 y4 y5 y6 y7 y8) (flyleaflaw15_RegionGaps.j3 (k + 1) y0 y1 y2 y3 y4 y5 y6 y7 y8)) ∧ (∀ y0 y1 y2 y3 y4 y5 y6 y7 y8 y9, LeO (flyleaflaw15_RegionGaps.l2 k y0 y1 y2 y3 y4 y5 y6 y7 y8 y9) (flyleaflaw15_RegionGaps.l2 (k + 1) y0 y1 y2 y3 y4 y5 y6 y7 y8 y9))
  | 0 => ⟨fun _ _ _ _ _ _ _ r h => by simp [flyleaflaw15_RegionGaps.l0] at h, fun _ _ _ _ _ _ _ _ r h => by simp [flyleaflaw15_RegionGaps.j1] at h, fun _ _ _ _ _ _ _ _ r h => by simp [flyleaflaw15_RegionGaps.l1] at h, fun _ _ _ _ _ _ _ _ _ r h => by simp [flyleaflaw15_RegionGaps.j3] at h, fun _ _ _ _ _ _ _ _ _ _ r h => by simp [flyleaflaw15_RegionGaps.l2] at h⟩
  | k + 1 => by
    obtain ⟨ih0, ih1, ih2, ih3, ih4⟩ := flyleaflaw15_RegionGaps.mono_l k
    refine ⟨?_, ?_, ?_, ?_, ?_⟩
    · intro y0 y1 y2 y3 y4 y5 y6
      unfold flyleaflaw15_RegionGaps.l0
      repeat' first
      | (with_reducible exact ih0 _ _ _ _ _ _ _)
      | (with_reducible exact ih1 _ _ _ _ _ _ _ _)
      | (with_reducible exact ih2 _ _ _ _ _ _ _ _)
      | (with_reducible exact ih3 _ _ _ _ _ _ _ _ _)
      | (with_reducible exact ih4 _ _ _ _ _ _ _ _ _ _)
      | (with_reducible exact flyleaflaw15_Op_of.mono _ _ _ _ _ _ _ _ _ _ _ _ _)
      | (with_reducible exact flyleaflaw15_awake.mono _)
      | (with_reducible exact region_Find.mono _ _ _)
      | (with_reducible exact region_Gap.mono _ _ _ _ _)
      | (with_reducible exact LeO.refl _)
      | (with_reducible exact LeO.none _)
      | (with_reducible refine LeO.ite ?_ ?_)
      | (with_reducible refine LeO.bind ?_ (fun _ => ?_))
      | exact ih0 _ _ _ _ _ _ _
      | exact ih1 _ _ _ _ _ _ _ _
      | exact ih2 _ _ _ _ _ _ _ _
      | exact ih3 _ _ _ _ _ _ _ _ _
      | exact ih4 _ _ _ _ _ _ _ _ _ _
      | exact flyleaflaw15_Op_of.mono _ _ _ _ _ _ _ _ _ _ _ _ _
      | exact flyleaflaw15_awake.mono _
      | exact region_Find.mono _ _ _
      | exact region_Gap.mono _ _ _ _ _
      | exact LeO.none _
      | refine LeO.ite ?_ ?_
      | refine LeO.bind ?_ (fun _ => ?_)
    · intro y0 y1 y2 y3 y4 y5 y6 y7
      unfold flyleaflaw15_RegionGaps.j1
      repeat' first
      | (with_reducible exact ih0 _ _ _ _ _ _ _)
      | (with_reducible exact ih1 _ _ _ _ _ _ _ _)
      | (with_reducible exact ih2 _ _ _ _ _ _ _ _)
      | (with_reducible exact ih3 _ _ _ _ _ _ _ _ _)
      | (with_reducible exact ih4 _ _ _ _ _ _ _ _ _ _)
      | (with_reducible exact flyleaflaw15_Op_of.mono _ _ _ _ _ _ _ _ _ _ _ _ _)
      | (with_reducible exact flyleaflaw15_awake.mono _)
      | (with_reducible exact region_Find.mono _ _ _)
      | (with_reducible exact region_Gap.mono _ _ _ _ _)
      | (with_reducible exact LeO.refl _)
      | (with_reducible exact LeO.none _)
      | (with_reducible refine LeO.ite ?_ ?_)
      | (with_reducible refine LeO.bind ?_ (fun _ => ?_))
      | exact ih0 _ _ _ _ _ _ _
      | exact ih1 _ _ _ _ _ _ _ _
      | exact ih2 _ _ _ _ _ _ _ _
      | exact ih3 _ _ _ _ _ _ _ _ _
      | exact ih4 _ _ _ _ _ _ _ _ _ _
      | exact flyleaflaw15_Op_of.mono _ _ _ _ _ _ _ _ _ _ _ _ _
      | exact flyleaflaw15_awake.mono _
      | exact region_Find.mono _ _ _
      | exact region_Gap.mono _ _ _ _ _
      | exact LeO.none _
      | refine LeO.ite ?_ ?_
      | refine LeO.bind ?_ (fun _ => ?_)
    · intro y0 y1 y2 y3 y4 y5 y6 y7
      unfold flyleaflaw15_RegionGaps.l1
      repeat' first
      | (with_reducible exact ih0 _ _ _ _ _ _ _)
      | (with_reducible exact ih1 _ _ _ _ _ _ _ _)
      | (with_reducible exact ih2 _ _ _ _ _ _ _ _)
      | (with_reducible exact ih3 _ _ _ _ _ _ _ _ _)
      | (with_reducible exact ih4 _ _ _ _ _ _ _ _ _ _)
      | (with_reducible exact flyleaflaw15_Op_of.mono _ _ _ _ _ _ _ _ _ _ _ _ _)
      | (with_reducible exact flyleaflaw15_awake.mono _)
      | (with_reducible exact region_Find.mono _ _ _)
      | (with_reducible exact region_Gap.mono _ _ _ _ _)
      | (with_reducible exact LeO.refl _)
      | (with_reducible exact LeO.none _)
      | (with_reducible refine LeO.ite ?_ ?_)
      | (with_reducible refine LeO.bind ?_ (fun _ => ?_))
      | exact ih0 _ _ _ _ _ _ _
      | exact ih1 _ _ _ _ _ _ _ _
      | exact ih2 _ _ _ _ _ _ _ _
      | exact ih3 _ _ _ _ _ _ _ _ _
      | exact ih4 _ _ _ _ _ _ _ _ _ _
      | exact flyleaflaw15_Op_of.mono _ _ _ _ _ _ _ _ _ _ _ _ _
      | exact flyleaflaw15_awake.mono _
      | exact region_Find.mono _ _ _
      | exact region_Gap.mono _ _ _ _ _
      | exact LeO.none _
      | refine LeO.ite ?_ ?_
      | refine LeO.bind ?_ (fun _ => ?_)
    · intro y0 y1 y2 y3 y4 y5 y6 y7 y8
      unfold flyleaflaw15_RegionGaps.j3
      repeat' first
      | (with_reducible exact ih0 _ _ _ _ _ _ _)
      | (with_reducible exact ih1 _ _ _ _ _ _ _ _)
      | (with_reducible exact ih2 _ _ _ _ _ _ _ _)
      | (with_reducible exact ih3 _ _ _ _ _ _ _ _ _)
      | (with_reducible exact ih4 _ _ _ _ _ _ _ _ _ _)
      | (with_reducible exact flyleaflaw15_Op_of.mono _ _ _ _ _ _ _ _ _ _ _ _ _)
      | (with_reducible exact flyleaflaw15_awake.mono _)
      | (with_reducible exact region_Find.mono _ _ _)
      | (with_reducible exact region_Gap.mono _ _ _ _ _)
      | (with_reducible exact LeO.refl _)
      | (with_reducible exact LeO.none _)
      | (with_reducible refine LeO.ite ?_ ?_)
      | (with_reducible refine LeO.bind ?_ (fun _ => ?_))
      | exact ih0 _ _ _ _ _ _ _
      | exact ih1 _ _ _ _ _ _ _ _
      | exact ih2 _ _ _ _ _ _ _ _
      | exact ih3 _ _ _ _ _ _ _ _ _
      | exact ih4 _ _ _ _ _ _ _ _ _ _
      | exact flyleaflaw15_Op_of.mono _ _ _ _ _ _ _ _ _ _ _ _ _
      | exact flyleaflaw15_awake.mono _
      | exact region_Find.mono _ _ _
      | exact region_Gap.mono _ _ _ _ _
      | exact LeO.none _
      | refine LeO.ite ?_ ?_
      | refine LeO.bind ?_ (fun _ => ?_)
    · intro y0 y1 y2 y3 y4 y5 y6 y7 y8 y9
      unfold flyleaflaw15_RegionGaps.l2
      repeat' first
      | (with_reducible exact ih0 _ _ _ _ _ _ _)
      | (with_reducible exact ih1 _ _ _ _ _ _ _ _)
      | (with_reducible exact ih2 _ _ _ _ _ _ _ _)
      | (with_reducible exact ih3 _ _ _ _ _ _ _ _ _)
      | (with_reducible exact ih4 _ _ _ _ _ _ _ _ _ _)
      | (with_reducible exact flyleaflaw15_Op_of.mono _ _ _ _ _ _ _ _ _ _ _ _ _)
      | (with_reducible exact flyleaflaw15_awake.mono _)
      | (with_reducible exact region_Find.mono _ _ _)
      | (with_reducible exact region_Gap.mono _ _ _ _ _)
      | (with_reducible exact LeO.refl _)
      | (with_reducible exact LeO.none _)
      | (with_reducible refine LeO.ite ?_ ?_)
      | (with_reducible refine LeO.bind ?_ (fun _ => ?_))
      | exact ih0 _ _ _ _ _ _ _
      | exact ih1 _ _ _ _ _ _ _ _
      | exact ih2 _ _ _ _ _ _ _ _
      | exact ih3 _ _ _ _ _ _ _ _ _
      | exact ih4 _ _ _ _ _ _ _ _ _ _
      | exact flyleaflaw15_Op_of.mono _ _ _ _ _ _ _ _ _ _ _ _ _
      | exact flyleaflaw15_awake.mono _
      | exact region_Find.mono _ _ _
      | exact region_Gap.mono _ _ _ _ _
      | exact LeO.none _
      | refine LeO.ite ?_ ?_
      | refine LeO.bind ?_ (fun _ => ?_)
theorem flyleaflaw15_RegionGaps.mono : ∀ a0 a1 a2 a3 k, LeO (flyleaflaw15_RegionGaps.f k a0 a1 a2 a3) (flyleaflaw15_RegionGaps.f (k + 1) a0 a1 a2 a3) := by
  intro a0 a1 a2 a3 k
  obtain ⟨ih0, ih1, ih2, ih3, ih4⟩ := flyleaflaw15_RegionGaps.mono_l k
  unfold flyleaflaw15_RegionGaps.f
  repeat' first
      | (with_reducible exact ih0 _ _ _ _ _ _ _)
      | (with_reducible exact ih1 _ _ _ _ _ _ _ _)
      | (with_reducible exact ih2 _ _ _ _ _ _ _ _)
      | (with_reducible exact ih3 _ _ _ _ _ _ _ _ _)
      | (with_reducible exact ih4 _ _ _ _ _ _ _ _ _ _)
      | (with_reducible exact flyleaflaw15_Op_of.mono _ _ _ _ _ _ _ _ _ _ _ _ _)
      | (with_reducible exact flyleaflaw15_awake.mono _)
      | (with_reducible exact region_Find.mono _ _ _)
      | (with_reducible exact region_Gap.mono _ _ _ _ _)
      | (with_reducible exact LeO.refl _)
      | (with_reducible exact LeO.none _)
      | (with_reducible refine LeO.ite ?_ ?_)
      | (with_reducible refine LeO.bind ?_ (fun _ => ?_))
      | exact ih0 _ _ _ _ _ _ _
      | exact ih1 _ _ _ _ _ _ _ _
      | exact ih2 _ _ _ _ _ _ _ _
      | exact ih3 _ _ _ _ _ _ _ _ _
      | exact ih4 _ _ _ _ _ _ _ _ _ _
      | exact flyleaflaw15_Op_of.mono _ _ _ _ _ _ _ _ _ _ _ _ _
      | exact flyleaflaw15_awake.mono _
      | exact region_Find.mono _ _ _
      | exact region_Gap.mono _ _ _ _ _
      | exact LeO.none _
      | refine LeO.ite ?_ ?_
      | refine LeO.bind ?_ (fun _ => ?_)
set_option maxHeartbeats 8000000 in
set_option maxRecDepth 100000 in
theorem flyleaflaw15_RegionGaps.calls (k : Nat) (A0 : Option Addr) (c0 : Nat) (l0 : List (S69)) (a1_0 : Int) (a1_1 : Int) (a1_2 : Int) (r : Bool) (w : World) (hr0 : Kd.C k69 w A0 l0.length l0) (hc0 : l0.length ≤ c0) (h : flyleaflaw15_RegionGaps.f k l0 a1_0 a1_1 a1_2 = some r) :
    Calls Try.prog 10 #[.slice A0 l0.length c0, .agg #[.int .i64 a1_0, .int .i64 a1_1, .int .i64 a1_2]] w fun e w' => e = .returned (.bool r) ∧ Below w.heap.size w w' := by
 have hu67 := Try.underlying67
 have hu69 := Try.underlying69
 have hu41 := Try.underlying41
 have HR0 := Aside0.mk hr0
 have HC0 := Aside0.mk hc0
 clear hr0 hc0
 have HB := Aside0.mk (Below.refl w.heap.size w)
 have H : ((flyleaflaw15_awake.f k).bind fun t212 => (flyleaflaw15_RegionGaps.l0 k l0 t212 ([] : List (S41)) 0 a1_0 a1_1 a1_2)) = some r := h
 clear h
 replace H := Option.bind_eq_some_iff.mp H
 obtain ⟨t212, A30, H⟩ := H
 replace H : (flyleaflaw15_RegionGaps.l0 k l0 t212 ([] : List (S41)) 0 a1_0 a1_1 a1_2) = some r := H
 have A3 := Aside0.mk A30
 clear A30
 have H' := Aside0.mk H
 clear H
 go_enter Try.func10, Try.ntmps10
 go_wp2_with (first | ((with_reducible refine gate_dst (N := 3) rfl ?_); refine box_event ?hg (N := 3) ?hd (cs := #[.int .i64 a1_0, .int .i64 a1_1, .int .i64 a1_2]) (t := 67) ?hr ?_; (case hd => rfl); (case hg => rfl); (case hr => first | (go_simp; done) | (go_simp; rfl)); intro gb211 hg w4 hbox hb; have n0_ := Aside0.mk (below_step (by repeat (first | (with_reducible first | exact HB.out | apply below_alloc | apply pw_below_drewN | apply below_drew1) | exact HB.out)) hb); have n1_ := Aside0.mk (hbox); have n2_ := Aside0.mk ((by rw [hg]; exact (below_size (by repeat (first | (with_reducible first | exact HB.out | apply below_alloc | apply pw_below_drewN | apply below_drew1) | exact HB.out))) : w.heap.size ≤ gb211)); have n3_ := Aside0.mk ((by rw [hg]; exact (below_size (by repeat (first | (with_reducible first | exact HB.out | apply below_alloc | apply pw_below_drewN | apply below_drew1) | exact HB.out))) : w.heap.size ≤ gb211)); clear HB; have HB := n0_; have BK211 := n1_; have GW211 := n2_; have GE211 := n3_; clear n0_ n1_ n2_ n3_; clear hb hbox hg) | ((with_reducible refine gate_callee (f := 23) rfl ?_); refine goesL_ (some 20) rfl rfl Try.func23 (by kernel_rfl) rfl #[] rfl (by (try simp only [List.map_toArray, List.map_cons, List.map_nil]); first | done | rfl | (simp only [List.length_drop, List.length_take]; rfl)) ?_; (with_reducible refine (flyleaflaw15_awake.calls k  t212 _ A3.out).mono ?_); rintro e w5 ⟨rfl, hb⟩; refine ⟨_, rfl, ?_⟩; have n0_ := Aside0.mk (blk_below (g := gb211) (o := .cells #[.int .i64 a1_0, .int .i64 a1_1, .int .i64 a1_2] 67 (0, 0)) (by (with_reducible repeat (first | refine blk_drewN ?_ _ | refine blk_drew ?_ | refine blk_alloc ?_ _)); exact BK211.out) hb); have n1_ := Aside0.mk (below_step (by repeat (first | (with_reducible first | exact HB.out | apply below_alloc | apply pw_below_drewN | apply below_drew1 | refine below_set ?_ GE211.out) | exact HB.out)) hb); clear BK211; clear HB; have BK211 := n0_; have HB := n1_; clear n0_ n1_; (try clear hb); (try clear hb2); (try clear hk); (try clear hi)))
 go_loopg [6, 7] k (fun kq v6 v7 w' => ∃ (x6_1 : List (S41)) (x7_1 : Int), v7 = .int .i64 x7_1 ∧ Aside0 (flyleaflaw15_RegionGaps.l0 kq l0 t212 x6_1 x7_1 a1_0 a1_1 a1_2 = some r) ∧ Aside0 (kq ≤ k) ∧ Aside0 (Kd.R k41 41 w' w.heap.size (fun _ => True) v6 x6_1) ∧ Aside0 (w'.heap[gb211]? = some (.cells #[.int .i64 a1_0, .int .i64 a1_1, .int .i64 a1_2] 67 (0, 0))) ∧ Aside0 (Below w.heap.size w w'))
 case atStart => exact ⟨(([] : List (S41))), (0), (by first | rfl | (simp; done) | (simp [*]; done)), H', ⟨Nat.le_refl _⟩, ⟨by first | exact Kd.R_nil _ _ _ _ _ | exact Kd.N_nil _ _ _ _ _ | exact Kd.V_nil _ _ _ _ _ | exact Kd.Q_nil _ _ _ _ _ | exact Kd.S_nil _ _ _ _ _⟩, ⟨by (with_reducible repeat (first | refine blk_drewN ?_ _ | refine blk_drew ?_ | refine blk_alloc ?_ _)); exact BK211.out⟩, ⟨by repeat (first | (with_reducible first | exact HB.out | apply below_alloc | apply pw_below_drewN | apply below_drew1 | refine below_set ?_ GE211.out) | exact HB.out)⟩⟩
 case round =>
  clear H'
  try clear c1
  try clear c2
  try clear p2
  obtain ⟨x6_1, x7_1, rfl, HA, HK1, HO_6, BK211, HB⟩ := hrel
  cases gk with
  | zero => exact absurd HA.out (by simp [flyleaflaw15_RegionGaps.l0])
  | succ k1 =>
   have H := HA.out
   clear HA
   simp only [flyleaflaw15_RegionGaps.l0] at H
   have HC6 := Aside0.mk H
   clear H
   go_upto_region 4 with (fail)
   go_cut [28] (fun v28 wc => ∃ (kq : Nat) (x28_5 : Bool), v28 = .bool x28_5 ∧ Aside0 (flyleaflaw15_RegionGaps.j1 kq l0 t212 x6_1 x7_1 x28_5 a1_0 a1_1 a1_2 = some r) ∧ Aside0 (kq ≤ k1) ∧ Aside0 (Kd.R k41 41 wc w.heap.size (fun _ => True) u6 x6_1) ∧ Aside0 (wc.heap[gb211]? = some (.cells #[.int .i64 a1_0, .int .i64 a1_1, .int .i64 a1_2] 67 (0, 0))) ∧ Aside0 (Below w.heap.size w wc))
   case first =>
    have H := HC6.out
    clear HC6
    by_cases c7 : x7_1 < (l0.length : Int)
    rotate_left
    · rw [if_neg c7] at H
      have c7b0 : decide (x7_1 < (l0.length : Int)) = false := decide_eq_false c7
      clear c7
      (first | rw [c7b0] | (simp only [i64_w, i32_w]; rw [c7b0]) | skip)
      have H' := Aside0.mk H
      clear H
      go_wp2
      go_meet
      case rel => exact ⟨_, (false), (by first | rfl | (simp; done) | (simp [*]; done)), H', ⟨by have := HK1.out; first | omega | exact Nat.le_refl _⟩, ⟨by (with_reducible repeat (first | apply Kd.R_alloc | apply Kd.R_drewN | apply Kd.R_drew)); exact HO_6.out⟩, ⟨by (with_reducible repeat (first | refine blk_drewN ?_ _ | refine blk_drew ?_ | refine blk_alloc ?_ _)); exact BK211.out⟩, ⟨by repeat (first | (with_reducible first | exact HB.out | apply below_alloc | apply pw_below_drewN | apply below_drew1 | refine below_set ?_ GE211.out) | exact HB.out)⟩⟩
    rw [if_pos c7] at H
    have c7b0 : decide (x7_1 < (l0.length : Int)) = true := decide_eq_true c7
    clear c7
    (first | rw [c7b0] | (simp only [i64_w, i32_w]; rw [c7b0]) | skip)
    have H' := Aside0.mk H
    clear H
    go_wp2
    go_meet
    case rel => exact ⟨_, (decide (x7_1 < 10)), (by first | rfl | (simp; done) | (simp [*]; done)), H', ⟨by have := HK1.out; first | omega | exact Nat.le_refl _⟩, ⟨by (with_reducible repeat (first | apply Kd.R_alloc | apply Kd.R_drewN | apply Kd.R_drew)); exact HO_6.out⟩, ⟨by (with_reducible repeat (first | refine blk_drewN ?_ _ | refine blk_drew ?_ | refine blk_alloc ?_ _)); exact BK211.out⟩, ⟨by repeat (first | (with_reducible first | exact HB.out | apply below_alloc | apply pw_below_drewN | apply below_drew1 | refine below_set ?_ GE211.out) | exact HB.out)⟩⟩
   case rest =>
    clear HC6
    try clear c1
    try clear c2
    try clear p2
    try clear c7
    try clear c7b0
    try clear p2
    obtain ⟨kq, x28_5, rfl, HA, HJ5, HO_6, BK211, HB⟩ := hcut
    cases kq with
    | zero => exact absurd HA.out (by simp [flyleaflaw15_RegionGaps.j1])
    | succ kj5 =>
     have H := HA.out
     clear HA
     simp only [flyleaflaw15_RegionGaps.j1] at H
     by_cases c8 : x28_5 = true
     · subst c8
       have H1 : (if 0 ≤ x7_1 then (if x7_1 < (l0.length : Int) then ((flyleaflaw15_Op_small.f ((rd_T69 l0 x7_1).f0) ((rd_T69 l0 x7_1).f1) ((rd_T69 l0 x7_1).f2) ((rd_T69 l0 x7_1).f3) ((rd_T69 l0 x7_1).f4) ((rd_T69 l0 x7_1).f5.f0) ((rd_T69 l0 x7_1).f5.f1) ((rd_T69 l0 x7_1).f5.f2) ((rd_T69 l0 x7_1).f5.f3) ((rd_T69 l0 x7_1).f5.f4) ((rd_T69 l0 x7_1).f5.f5)).bind fun bt214 => ((flyleaflaw15_Op_of.f kj5 bt214.1 bt214.2.1 bt214.2.2.1 bt214.2.2.2.1 bt214.2.2.2.2.1 bt214.2.2.2.2.2.1 bt214.2.2.2.2.2.2.1 bt214.2.2.2.2.2.2.2.1 bt214.2.2.2.2.2.2.2.2.1 bt214.2.2.2.2.2.2.2.2.2.1 bt214.2.2.2.2.2.2.2.2.2.2 x6_1).bind fun bt225 => (if bt225.2 = 0 then (flyleaflaw15_RegionGaps.l0 kj5 l0 t212 bt225.1 (wrap64 (x7_1 + 1)) a1_0 a1_1 a1_2) else (flyleaflaw15_RegionGaps.l0 kj5 l0 t212 x6_1 (wrap64 (x7_1 + 1)) a1_0 a1_1 a1_2)))) else (none)) else (none)) = some r := by rw [if_pos rfl] at H; exact H
       clear H
       have H := H1
       clear H1
       by_cases c9 : 0 ≤ x7_1
       rotate_left
       · rw [if_neg c9] at H
         exact absurd H (by simp)
       rw [if_pos c9] at H
       have c9b0 : decide (0 ≤ x7_1) = true := decide_eq_true c9
       clear c9
       by_cases c10 : x7_1 < (l0.length : Int)
       rotate_left
       · rw [if_neg c10] at H
         exact absurd H (by simp)
       rw [if_pos c10] at H
       have c10b0 : decide (x7_1 < (l0.length : Int)) = true := decide_eq_true c10
       clear c10
       replace H := Option.bind_eq_some_iff.mp H
       obtain ⟨⟨t214, t215, t216, t217, t218, t219, t220, t221, t222, t223, t224⟩, A110, H⟩ := H
       replace H : ((flyleaflaw15_Op_of.f kj5 t214 t215 t216 t217 t218 t219 t220 t221 t222 t223 t224 x6_1).bind fun bt225 => (if bt225.2 = 0 then (flyleaflaw15_RegionGaps.l0 kj5 l0 t212 bt225.1 (wrap64 (x7_1 + 1)) a1_0 a1_1 a1_2) else (flyleaflaw15_RegionGaps.l0 kj5 l0 t212 x6_1 (wrap64 (x7_1 + 1)) a1_0 a1_1 a1_2))) = some r := H
       have A11 := Aside0.mk A110
       clear A110
       replace H := Option.bind_eq_some_iff.mp H
       obtain ⟨⟨t225, t228⟩, A120, H⟩ := H
       replace H : (if t228 = 0 then (flyleaflaw15_RegionGaps.l0 kj5 l0 t212 t225 (wrap64 (x7_1 + 1)) a1_0 a1_1 a1_2) else (flyleaflaw15_RegionGaps.l0 kj5 l0 t212 x6_1 (wrap64 (x7_1 + 1)) a1_0 a1_1 a1_2)) = some r := H
       have A12 := Aside0.mk A120
       clear A120
       by_cases c13 : t228 = 0
       rotate_left
       · rw [if_neg c13] at H
         have c13b0 : (t228 == 0) = false := beq_eq_false_iff_ne.mpr c13
         have c13b1 : (t228 != 0) = true := bne_iff_ne.mpr c13
         have H' := Aside0.mk H
         clear H
         have p213 : 0 ≤ (x7_1 : Int) := of_decide_eq_true (by first | (with_reducible assumption) | assumption)
         have q213 : x7_1 < (l0.length : Int) := of_decide_eq_true (by first | (with_reducible assumption) | assumption)
         obtain ⟨ad213, e213, hx213_0, hx213_1, hx213_2, hx213_3, hx213_4, hx213_5, hx213_6, hx213_7, hx213_8, hx213_9, hx213_10⟩ := at_T69 HR0.out x7_1 p213 q213
         cases e213
         replace hx213_0 := up_ hx213_0 HB.out
         replace hx213_1 := up_ hx213_1 HB.out
         replace hx213_2 := up_ hx213_2 HB.out
         replace hx213_3 := up_ hx213_3 HB.out
         replace hx213_4 := up_ hx213_4 HB.out
         replace hx213_5 := up_ hx213_5 HB.out
         replace hx213_6 := up_ hx213_6 HB.out
         replace hx213_7 := up_ hx213_7 HB.out
         replace hx213_8 := up_ hx213_8 HB.out
         replace hx213_9 := up_ hx213_9 HB.out
         replace hx213_10 := up_ hx213_10 HB.out
         replace p213 := eq_true p213
         replace q213 := eq_true q213
         go_wp2_with (first | ((with_reducible refine gate_callee (f := 33) rfl ?_); refine goesL_ (some 36) rfl rfl Try.func33 (by kernel_rfl) rfl #[.agg #[.int .i64 ((rd_T69 l0 x7_1).f0), .int .i64 ((rd_T69 l0 x7_1).f1), .int .i64 ((rd_T69 l0 x7_1).f2), .int .i64 ((rd_T69 l0 x7_1).f3), .bool ((rd_T69 l0 x7_1).f4), .int .i64 ((rd_T69 l0 x7_1).f5.f0), .int .i64 ((rd_T69 l0 x7_1).f5.f1), .int .i64 ((rd_T69 l0 x7_1).f5.f2), .int .i64 ((rd_T69 l0 x7_1).f5.f3), .int .i64 ((rd_T69 l0 x7_1).f5.f4), .int .i64 ((rd_T69 l0 x7_1).f5.f5)]] rfl (by (try simp only [List.map_toArray, List.map_cons, List.map_nil]); first | done | rfl | (simp only [List.length_drop, List.length_take]; rfl)) ?_; (with_reducible refine (flyleaflaw15_Op_small.calls ((rd_T69 l0 x7_1).f0) ((rd_T69 l0 x7_1).f1) ((rd_T69 l0 x7_1).f2) ((rd_T69 l0 x7_1).f3) ((rd_T69 l0 x7_1).f4) ((rd_T69 l0 x7_1).f5.f0) ((rd_T69 l0 x7_1).f5.f1) ((rd_T69 l0 x7_1).f5.f2) ((rd_T69 l0 x7_1).f5.f3) ((rd_T69 l0 x7_1).f5.f4) ((rd_T69 l0 x7_1).f5.f5) t214 t215 t216 t217 t218 t219 t220 t221 t222 t223 t224 _ A11.out).mono ?_); rintro e w17 ⟨rfl, hb⟩; refine ⟨_, rfl, ?_⟩; have n0_ := Aside0.mk (Kd.R_below (by (with_reducible repeat (first | apply Kd.R_alloc | apply Kd.R_drewN | apply Kd.R_drew)); exact HO_6.out) hb); have n1_ := Aside0.mk (blk_below (g := gb211) (o := .cells #[.int .i64 a1_0, .int .i64 a1_1, .int .i64 a1_2] 67 (0, 0)) (by (with_reducible repeat (first | refine blk_drewN ?_ _ | refine blk_drew ?_ | refine blk_alloc ?_ _)); exact BK211.out) hb); have n2_ := Aside0.mk (below_step (by repeat (first | (with_reducible first | exact HB.out | apply below_alloc | apply pw_below_drewN | apply below_drew1 | refine below_set ?_ GE211.out) | exact HB.out)) hb); clear HO_6; clear BK211; clear HB; have HO_6 := n0_; have BK211 := n1_; have HB := n2_; clear n0_ n1_ n2_; (try clear hb); (try clear hb2); (try clear hk); (try clear hi); obtain ⟨Ao18, co18, eo18⟩ := Kd.R_slice HO_6.out; subst eo18) | ((with_reducible refine gate_callee (f := 34) rfl ?_); refine goesL_ (some 38) rfl rfl Try.func34 (by kernel_rfl) rfl #[.agg #[.int .i64 t214, .int .i64 t215, .int .i64 t216, .int .i64 t217, .bool t218, .int .i64 t219, .int .i64 t220, .int .i64 t221, .int .i64 t222, .int .i64 t223, .int .i64 t224], .slice Ao18 x6_1.length co18] rfl (by (try simp only [List.map_toArray, List.map_cons, List.map_nil]); first | done | rfl | (simp only [List.length_drop, List.length_take]; rfl)) ?_; (with_reducible refine (flyleaflaw15_Op_of.calls kj5 t214 t215 t216 t217 t218 t219 t220 t221 t222 t223 t224 _ _ x6_1 t225 t228 _ ?side1 ?side2 A12.out).mono ?_); (case side1 => repeat (first | exact (Kd.R_reads' HO_6.out).2.2 | (with_reducible refine Kd.C_alloc ?_ _) | (with_reducible refine Kd.C_drewN ?_ _) | (with_reducible refine Kd.C_drew ?_))); (case side2 => exact (Kd.R_reads' HO_6.out).2.1); rintro e w19 ⟨v226, rfl, ho0, hb⟩; refine ⟨_, rfl, ?_⟩; have n0_ := Aside0.mk (Kd.R_elder' (by (with_reducible repeat (first | apply Kd.R_alloc | apply Kd.R_drewN | apply Kd.R_drew)); exact HO_6.out) (Kd.R_base ho0) hb); have n1_ := Aside0.mk (Kd.R_lower (Kd.R_new' ho0 (Kd.R_lt (by (with_reducible repeat (first | apply Kd.R_alloc | apply Kd.R_drewN | apply Kd.R_drew)); exact HO_6.out))) (below_size (by repeat (first | (with_reducible first | exact HB.out | apply below_alloc | apply pw_below_drewN | apply below_drew1 | refine below_set ?_ GE211.out) | exact HB.out)))); have n2_ := Aside0.mk (blk_below (g := gb211) (o := .cells #[.int .i64 a1_0, .int .i64 a1_1, .int .i64 a1_2] 67 (0, 0)) (by (with_reducible repeat (first | refine blk_drewN ?_ _ | refine blk_drew ?_ | refine blk_alloc ?_ _)); exact BK211.out) hb); have n3_ := Aside0.mk (below_step (by repeat (first | (with_reducible first | exact HB.out | apply below_alloc | apply pw_below_drewN | apply below_drew1 | refine below_set ?_ GE211.out) | exact HB.out)) hb); clear HO_6; clear BK211; clear HB; have HO_6 := n0_; have HO227 := n1_; have BK211 := n2_; have HB := n3_; clear n0_ n1_ n2_ n3_; (try clear hb); (try clear hb2); (try clear hk); (try clear hi); (try clear ho0)))
         go_roundg kj5
         case measure => have := HK1.out; have := HJ5.out; omega
         case rel => exact ⟨(x6_1), (wrap64 (x7_1 + 1)), (by first | rfl | (simp; done) | (simp [*]; done)), H', ⟨by have := HK1.out; have := HJ5.out; omega⟩, ⟨by (with_reducible repeat (first | apply Kd.R_alloc | apply Kd.R_drewN | apply Kd.R_drew)); exact Kd.R_mono HO_6.out (fun _ hk => trivial)⟩, ⟨by (with_reducible repeat (first | refine blk_drewN ?_ _ | refine blk_drew ?_ | refine blk_alloc ?_ _)); exact BK211.out⟩, ⟨by repeat (first | (with_reducible first | exact HB.out | apply below_alloc | apply pw_below_drewN | apply below_drew1 | refine below_set ?_ GE211.out) | exact HB.out)⟩⟩
       rw [if_pos c13] at H
       have c13b0 : (t228 == 0) = true := beq_iff_eq.mpr c13
       have c13b1 : (t228 != 0) = false := bne_eq_false_iff_eq.mpr c13
       clear c13
       have H' := Aside0.mk H
       clear H
       have p213 : 0 ≤ (x7_1 : Int) := of_decide_eq_true (by first | (with_reducible assumption) | assumption)
       have q213 : x7_1 < (l0.length : Int) := of_decide_eq_true (by first | (with_reducible assumption) | assumption)
       obtain ⟨ad213, e213, hx213_0, hx213_1, hx213_2, hx213_3, hx213_4, hx213_5, hx213_6, hx213_7, hx213_8, hx213_9, hx213_10⟩ := at_T69 HR0.out x7_1 p213 q213
       cases e213
       replace hx213_0 := up_ hx213_0 HB.out
       replace hx213_1 := up_ hx213_1 HB.out
       replace hx213_2 := up_ hx213_2 HB.out
       replace hx213_3 := up_ hx213_3 HB.out
       replace hx213_4 := up_ hx213_4 HB.out
       replace hx213_5 := up_ hx213_5 HB.out
       replace hx213_6 := up_ hx213_6 HB.out
       replace hx213_7 := up_ hx213_7 HB.out
       replace hx213_8 := up_ hx213_8 HB.out
       replace hx213_9 := up_ hx213_9 HB.out
       replace hx213_10 := up_ hx213_10 HB.out
       replace p213 := eq_true p213
       replace q213 := eq_true q213
       go_wp2_with (first | ((with_reducible refine gate_callee (f := 33) rfl ?_); refine goesL_ (some 36) rfl rfl Try.func33 (by kernel_rfl) rfl #[.agg #[.int .i64 ((rd_T69 l0 x7_1).f0), .int .i64 ((rd_T69 l0 x7_1).f1), .int .i64 ((rd_T69 l0 x7_1).f2), .int .i64 ((rd_T69 l0 x7_1).f3), .bool ((rd_T69 l0 x7_1).f4), .int .i64 ((rd_T69 l0 x7_1).f5.f0), .int .i64 ((rd_T69 l0 x7_1).f5.f1), .int .i64 ((rd_T69 l0 x7_1).f5.f2), .int .i64 ((rd_T69 l0 x7_1).f5.f3), .int .i64 ((rd_T69 l0 x7_1).f5.f4), .int .i64 ((rd_T69 l0 x7_1).f5.f5)]] rfl (by (try simp only [List.map_toArray, List.map_cons, List.map_nil]); first | done | rfl | (simp only [List.length_drop, List.length_take]; rfl)) ?_; (with_reducible refine (flyleaflaw15_Op_small.calls ((rd_T69 l0 x7_1).f0) ((rd_T69 l0 x7_1).f1) ((rd_T69 l0 x7_1).f2) ((rd_T69 l0 x7_1).f3) ((rd_T69 l0 x7_1).f4) ((rd_T69 l0 x7_1).f5.f0) ((rd_T69 l0 x7_1).f5.f1) ((rd_T69 l0 x7_1).f5.f2) ((rd_T69 l0 x7_1).f5.f3) ((rd_T69 l0 x7_1).f5.f4) ((rd_T69 l0 x7_1).f5.f5) t214 t215 t216 t217 t218 t219 t220 t221 t222 t223 t224 _ A11.out).mono ?_); rintro e w14 ⟨rfl, hb⟩; refine ⟨_, rfl, ?_⟩; have n0_ := Aside0.mk (Kd.R_below (by (with_reducible repeat (first | apply Kd.R_alloc | apply Kd.R_drewN | apply Kd.R_drew)); exact HO_6.out) hb); have n1_ := Aside0.mk (blk_below (g := gb211) (o := .cells #[.int .i64 a1_0, .int .i64 a1_1, .int .i64 a1_2] 67 (0, 0)) (by (with_reducible repeat (first | refine blk_drewN ?_ _ | refine blk_drew ?_ | refine blk_alloc ?_ _)); exact BK211.out) hb); have n2_ := Aside0.mk (below_step (by repeat (first | (with_reducible first | exact HB.out | apply below_alloc | apply pw_below_drewN | apply below_drew1 | refine below_set ?_ GE211.out) | exact HB.out)) hb); clear HO_6; clear BK211; clear HB; have HO_6 := n0_; have BK211 := n1_; have HB := n2_; clear n0_ n1_ n2_; (try clear hb); (try clear hb2); (try clear hk); (try clear hi); obtain ⟨Ao15, co15, eo15⟩ := Kd.R_slice HO_6.out; subst eo15) | ((with_reducible refine gate_callee (f := 34) rfl ?_); refine goesL_ (some 38) rfl rfl Try.func34 (by kernel_rfl) rfl #[.agg #[.int .i64 t214, .int .i64 t215, .int .i64 t216, .int .i64 t217, .bool t218, .int .i64 t219, .int .i64 t220, .int .i64 t221, .int .i64 t222, .int .i64 t223, .int .i64 t224], .slice Ao15 x6_1.length co15] rfl (by (try simp only [List.map_toArray, List.map_cons, List.map_nil]); first | done | rfl | (simp only [List.length_drop, List.length_take]; rfl)) ?_; (with_reducible refine (flyleaflaw15_Op_of.calls kj5 t214 t215 t216 t217 t218 t219 t220 t221 t222 t223 t224 _ _ x6_1 t225 t228 _ ?side1 ?side2 A12.out).mono ?_); (case side1 => repeat (first | exact (Kd.R_reads' HO_6.out).2.2 | (with_reducible refine Kd.C_alloc ?_ _) | (with_reducible refine Kd.C_drewN ?_ _) | (with_reducible refine Kd.C_drew ?_))); (case side2 => exact (Kd.R_reads' HO_6.out).2.1); rintro e w16 ⟨v226, rfl, ho0, hb⟩; refine ⟨_, rfl, ?_⟩; have n0_ := Aside0.mk (Kd.R_elder' (by (with_reducible repeat (first | apply Kd.R_alloc | apply Kd.R_drewN | apply Kd.R_drew)); exact HO_6.out) (Kd.R_base ho0) hb); have n1_ := Aside0.mk (Kd.R_lower (Kd.R_new' ho0 (Kd.R_lt (by (with_reducible repeat (first | apply Kd.R_alloc | apply Kd.R_drewN | apply Kd.R_drew)); exact HO_6.out))) (below_size (by repeat (first | (with_reducible first | exact HB.out | apply below_alloc | apply pw_below_drewN | apply below_drew1 | refine below_set ?_ GE211.out) | exact HB.out)))); have n2_ := Aside0.mk (blk_below (g := gb211) (o := .cells #[.int .i64 a1_0, .int .i64 a1_1, .int .i64 a1_2] 67 (0, 0)) (by (with_reducible repeat (first | refine blk_drewN ?_ _ | refine blk_drew ?_ | refine blk_alloc ?_ _)); exact BK211.out) hb); have n3_ := Aside0.mk (below_step (by repeat (first | (with_reducible first | exact HB.out | apply below_alloc | apply pw_below_drewN | apply below_drew1 | refine below_set ?_ GE211.out) | exact HB.out)) hb); clear HO_6; clear BK211; clear HB; have HO_6 := n0_; have HO227 := n1_; have BK211 := n2_; have HB := n3_; clear n0_ n1_ n2_ n3_; (try clear hb); (try clear hb2); (try clear hk); (try clear hi); (try clear ho0)))
       go_roundg kj5
       case measure => have := HK1.out; have := HJ5.out; omega
       case rel => exact ⟨(t225), (wrap64 (x7_1 + 1)), (by first | rfl | (simp; done) | (simp [*]; done)), H', ⟨by have := HK1.out; have := HJ5.out; omega⟩, ⟨by (with_reducible repeat (first | apply Kd.R_alloc | apply Kd.R_drewN | apply Kd.R_drew)); exact Kd.R_mono HO227.out (fun _ hk => trivial)⟩, ⟨by (with_reducible repeat (first | refine blk_drewN ?_ _ | refine blk_drew ?_ | refine blk_alloc ?_ _)); exact BK211.out⟩, ⟨by repeat (first | (with_reducible first | exact HB.out | apply below_alloc | apply pw_below_drewN | apply below_drew1 | refine below_set ?_ GE211.out) | exact HB.out)⟩⟩
     replace c8 := Bool.eq_false_iff.mpr c8
     subst c8
     have H1 : ((region_Gap.f kj5 x6_1 (Go.bits .and .i64 a1_0 63) (Go.bits .and .i64 a1_1 127) (wrap64 (1 + (Go.bits .and .i64 a1_2 15)))).bind fun bt229 => (flyleaflaw15_RegionGaps.l1 kj5 t212 x6_1 (Go.bits .and .i64 a1_0 63) (Go.bits .and .i64 a1_1 127) (wrap64 (1 + (Go.bits .and .i64 a1_2 15))) bt229.1 bt229.2 (Go.bits .and .i64 a1_0 63))) = some r := by rw [if_neg (show ¬ (false = true) by decide)] at H; exact H
     clear H
     have H := H1
     clear H1
     replace H := Option.bind_eq_some_iff.mp H
     obtain ⟨⟨t229, t230⟩, A200, H⟩ := H
     replace H : (flyleaflaw15_RegionGaps.l1 kj5 t212 x6_1 (Go.bits .and .i64 a1_0 63) (Go.bits .and .i64 a1_1 127) (wrap64 (1 + (Go.bits .and .i64 a1_2 15))) t229 t230 (Go.bits .and .i64 a1_0 63)) = some r := H
     have A20 := Aside0.mk A200
     clear A200
     have H' := Aside0.mk H
     clear H
     have hcz21_0 : wc.cell? ⟨gb211, 0, none⟩ = some (.int .i64 a1_0) := (blk_cell BK211.out 0).trans rfl
     have hcz21_1 : wc.cell? ⟨gb211, 1, none⟩ = some (.int .i64 a1_1) := (blk_cell BK211.out 1).trans rfl
     have hcz21_2 : wc.cell? ⟨gb211, 2, none⟩ = some (.int .i64 a1_2) := (blk_cell BK211.out 2).trans rfl
     have hfz21_0 := blk_frozen BK211.out 0
     have hfz21_1 := blk_frozen BK211.out 1
     have hfz21_2 := blk_frozen BK211.out 2
     obtain ⟨Ao22, co22, eo22⟩ := Kd.R_slice HO_6.out
     subst eo22
     go_wp2_with (first | ((with_reducible refine gate_callee (f := 40) rfl ?_); refine goesL_ (some 59) rfl rfl Try.func40 (by kernel_rfl) rfl #[.slice Ao22 x6_1.length co22, .int .i64 (Go.bits .and .i64 a1_0 63), .int .i64 (Go.bits .and .i64 a1_1 127), .int .i64 (wrap64 (1 + (Go.bits .and .i64 a1_2 15)))] rfl (by (try simp only [List.map_toArray, List.map_cons, List.map_nil]); first | done | rfl | (simp only [List.length_drop, List.length_take]; rfl)) ?_; (with_reducible refine (region_Gap.calls kj5 _ _ x6_1 (Go.bits .and .i64 a1_0 63) (Go.bits .and .i64 a1_1 127) (wrap64 (1 + (Go.bits .and .i64 a1_2 15))) t229 t230 _ ?side1 ?side2 A20.out).mono ?_); (case side1 => repeat (first | exact (Kd.R_reads' HO_6.out).2.2 | (with_reducible refine Kd.C_alloc ?_ _) | (with_reducible refine Kd.C_drewN ?_ _) | (with_reducible refine Kd.C_drew ?_))); (case side2 => exact (Kd.R_reads' HO_6.out).2.1); rintro e w23 ⟨rfl, hb⟩; refine ⟨_, rfl, ?_⟩; have n0_ := Aside0.mk (Kd.R_below (by (with_reducible repeat (first | apply Kd.R_alloc | apply Kd.R_drewN | apply Kd.R_drew)); exact HO_6.out) hb); have n1_ := Aside0.mk (blk_below (g := gb211) (o := .cells #[.int .i64 a1_0, .int .i64 a1_1, .int .i64 a1_2] 67 (0, 0)) (by (with_reducible repeat (first | refine blk_drewN ?_ _ | refine blk_drew ?_ | refine blk_alloc ?_ _)); exact BK211.out) hb); have n2_ := Aside0.mk (below_step (by repeat (first | (with_reducible first | exact HB.out | apply below_alloc | apply pw_below_drewN | apply below_drew1 | refine below_set ?_ GE211.out) | exact HB.out)) hb); clear HO_6; clear BK211; clear HB; have HO_6 := n0_; have BK211 := n1_; have HB := n2_; clear n0_ n1_ n2_; (try clear hb); (try clear hb2); (try clear hk); (try clear hi)))
     go_loopg [15] kj5 (fun kq v15 w' => ∃ (x15_3 : Int), v15 = .int .i64 x15_3 ∧ Aside0 (flyleaflaw15_RegionGaps.l1 kq t212 x6_1 (Go.bits .and .i64 a1_0 63) (Go.bits .and .i64 a1_1 127) (wrap64 (1 + (Go.bits .and .i64 a1_2 15))) t229 t230 x15_3 = some r) ∧ Aside0 (kq ≤ kj5) ∧ Aside0 (Kd.R k41 41 w' w.heap.size (fun _ => True) (.slice Ao22 x6_1.length co22) x6_1) ∧ Aside0 (w'.heap[gb211]? = some (.cells #[.int .i64 a1_0, .int .i64 a1_1, .int .i64 a1_2] 67 (0, 0))) ∧ Aside0 (Below w.heap.size w w'))
     case atStart => exact ⟨(Go.bits .and .i64 a1_0 63), (by first | rfl | (simp; done) | (simp [*]; done)), H', ⟨Nat.le_refl _⟩, ⟨by (with_reducible repeat (first | apply Kd.R_alloc | apply Kd.R_drewN | apply Kd.R_drew)); exact HO_6.out⟩, ⟨by (with_reducible repeat (first | refine blk_drewN ?_ _ | refine blk_drew ?_ | refine blk_alloc ?_ _)); exact BK211.out⟩, ⟨by repeat (first | (with_reducible first | exact HB.out | apply below_alloc | apply pw_below_drewN | apply below_drew1 | refine below_set ?_ GE211.out) | exact HB.out)⟩⟩
     case round =>
      clear H'
      try clear c1
      try clear c2
      try clear p2
      try clear q2
      try clear hx2
      try clear c3
      try clear c4
      try clear p6
      try clear c7
      try clear c7b0
      try clear c8
      try clear c9
      try clear c9b0
      try clear c10
      try clear c10b0
      try clear c13
      try clear c13b0
      try clear c13b1
      try clear p21
      try clear q21
      try clear hx21
      try clear c23
      try clear hcz21_0
      try clear hcz21_1
      try clear hcz21_2
      try clear hfz21_0
      try clear hfz21_1
      try clear hfz21_2
      try clear hx213_0
      try clear hx213_1
      try clear hx213_10
      try clear hx213_2
      try clear hx213_3
      try clear hx213_4
      try clear hx213_5
      try clear hx213_6
      try clear hx213_7
      try clear hx213_8
      try clear hx213_9
      try clear p2
      try clear p213
      try clear q213
      obtain ⟨x15_3, rfl, HA, HK3, HO_6, BK211, HB⟩ := hrel
      cases gk with
      | zero => exact absurd HA.out (by simp [flyleaflaw15_RegionGaps.l1])
      | succ k3 =>
       have H := HA.out
       clear HA
       simp only [flyleaflaw15_RegionGaps.l1] at H
       have HC24 := Aside0.mk H
       clear H
       go_upto_region 14 with (fail)
       go_cut [76] (fun v76 wc => ∃ (kq : Nat) (x76_23 : Bool), v76 = .bool x76_23 ∧ Aside0 (flyleaflaw15_RegionGaps.j3 kq t212 x6_1 (Go.bits .and .i64 a1_0 63) (Go.bits .and .i64 a1_1 127) (wrap64 (1 + (Go.bits .and .i64 a1_2 15))) t229 t230 x15_3 x76_23 = some r) ∧ Aside0 (kq ≤ k3) ∧ Aside0 (Kd.R k41 41 wc w.heap.size (fun _ => True) (.slice Ao22 x6_1.length co22) x6_1) ∧ Aside0 (wc.heap[gb211]? = some (.cells #[.int .i64 a1_0, .int .i64 a1_1, .int .i64 a1_2] 67 (0, 0))) ∧ Aside0 (Below w.heap.size w wc))
       case first =>
        have H := HC24.out
        clear HC24
        by_cases c25 : (wrap64 (x15_3 + (wrap64 (1 + (Go.bits .and .i64 a1_2 15))))) ≤ (Go.bits .and .i64 a1_1 127)
        rotate_left
        · rw [if_neg c25] at H
          have c25b0 : decide ((wrap64 (x15_3 + (wrap64 (1 + (Go.bits .and .i64 a1_2 15))))) ≤ (Go.bits .and .i64 a1_1 127)) = false := decide_eq_false c25
          clear c25
          (first | rw [c25b0] | (simp only [i64_w, i32_w]; rw [c25b0]) | skip)
          have H' := Aside0.mk H
          clear H
          go_wp2
          go_meet
          case rel => exact ⟨_, (false), (by first | rfl | (simp; done) | (simp [*]; done)), H', ⟨by have := HK1.out; have := HJ5.out; have := HK3.out; first | omega | exact Nat.le_refl _⟩, ⟨by (with_reducible repeat (first | apply Kd.R_alloc | apply Kd.R_drewN | apply Kd.R_drew)); exact HO_6.out⟩, ⟨by (with_reducible repeat (first | refine blk_drewN ?_ _ | refine blk_drew ?_ | refine blk_alloc ?_ _)); exact BK211.out⟩, ⟨by repeat (first | (with_reducible first | exact HB.out | apply below_alloc | apply pw_below_drewN | apply below_drew1 | refine below_set ?_ GE211.out) | exact HB.out)⟩⟩
        rw [if_pos c25] at H
        have c25b0 : decide ((wrap64 (x15_3 + (wrap64 (1 + (Go.bits .and .i64 a1_2 15))))) ≤ (Go.bits .and .i64 a1_1 127)) = true := decide_eq_true c25
        clear c25
        (first | rw [c25b0] | (simp only [i64_w, i32_w]; rw [c25b0]) | skip)
        by_cases c26 : t230 = true
        · subst c26
          have H1 : (flyleaflaw15_RegionGaps.j3 k3 t212 x6_1 (Go.bits .and .i64 a1_0 63) (Go.bits .and .i64 a1_1 127) (wrap64 (1 + (Go.bits .and .i64 a1_2 15))) t229 true x15_3 (decide (x15_3 ≤ t229))) = some r := by rw [if_pos rfl] at H; exact H
          clear H
          have H := H1
          clear H1
          have H' := Aside0.mk H
          clear H
          go_wp2
          go_meet
          case rel => exact ⟨_, (decide (x15_3 ≤ t229)), (by first | rfl | (simp; done) | (simp [*]; done)), H', ⟨by have := HK1.out; have := HJ5.out; have := HK3.out; first | omega | exact Nat.le_refl _⟩, ⟨by (with_reducible repeat (first | apply Kd.R_alloc | apply Kd.R_drewN | apply Kd.R_drew)); exact HO_6.out⟩, ⟨by (with_reducible repeat (first | refine blk_drewN ?_ _ | refine blk_drew ?_ | refine blk_alloc ?_ _)); exact BK211.out⟩, ⟨by repeat (first | (with_reducible first | exact HB.out | apply below_alloc | apply pw_below_drewN | apply below_drew1 | refine below_set ?_ GE211.out) | exact HB.out)⟩⟩
        replace c26 := Bool.eq_false_iff.mpr c26
        subst c26
        have H1 : (flyleaflaw15_RegionGaps.j3 k3 t212 x6_1 (Go.bits .and .i64 a1_0 63) (Go.bits .and .i64 a1_1 127) (wrap64 (1 + (Go.bits .and .i64 a1_2 15))) t229 false x15_3 true) = some r := by rw [if_neg (show ¬ (false = true) by decide)] at H; exact H
        clear H
        have H := H1
        clear H1
        have H' := Aside0.mk H
        clear H
        go_wp2
        go_meet
        case rel => exact ⟨_, (true), (by first | rfl | (simp; done) | (simp [*]; done)), H', ⟨by have := HK1.out; have := HJ5.out; have := HK3.out; first | omega | exact Nat.le_refl _⟩, ⟨by (with_reducible repeat (first | apply Kd.R_alloc | apply Kd.R_drewN | apply Kd.R_drew)); exact HO_6.out⟩, ⟨by (with_reducible repeat (first | refine blk_drewN ?_ _ | refine blk_drew ?_ | refine blk_alloc ?_ _)); exact BK211.out⟩, ⟨by repeat (first | (with_reducible first | exact HB.out | apply below_alloc | apply pw_below_drewN | apply below_drew1 | refine below_set ?_ GE211.out) | exact HB.out)⟩⟩
       case rest =>
        clear HC24
        try clear c1
        try clear c2
        try clear p2
        try clear q2
        try clear hx2
        try clear c3
        try clear c4
        try clear p6
        try clear c7
        try clear c7b0
        try clear c8
        try clear c9
        try clear c9b0
        try clear c10
        try clear c10b0
        try clear c13
        try clear c13b0
        try clear c13b1
        try clear p21
        try clear q21
        try clear hx21
        try clear c23
        try clear c25
        try clear c25b0
        try clear c26
        try clear hcz21_0
        try clear hcz21_1
        try clear hcz21_2
        try clear hfz21_0
        try clear hfz21_1
        try clear hfz21_2
        try clear hx213_0
        try clear hx213_1
        try clear hx213_10
        try clear hx213_2
        try clear hx213_3
        try clear hx213_4
        try clear hx213_5
        try clear hx213_6
        try clear hx213_7
        try clear hx213_8
        try clear hx213_9
        try clear p2
        try clear p21
        try clear p213
        try clear p6
        try clear q2
        try clear q21
        try clear q213
        obtain ⟨kq, x76_23, rfl, HA, HJ23, HO_6, BK211, HB⟩ := hcut
        cases kq with
        | zero => exact absurd HA.out (by simp [flyleaflaw15_RegionGaps.j3])
        | succ kj23 =>
         have H := HA.out
         clear HA
         simp only [flyleaflaw15_RegionGaps.j3] at H
         by_cases c27 : x76_23 = true
         rotate_left
         · replace c27 := Bool.eq_false_iff.mpr c27
           subst c27
           have H1 : (if t212 = true then (if t230 = true then (if t229 ≥ (Go.bits .and .i64 a1_0 63) then (some (decide ((wrap64 (t229 + (wrap64 (1 + (Go.bits .and .i64 a1_2 15))))) ≤ (Go.bits .and .i64 a1_1 127)))) else (some false)) else (if t229 = 0 then (some true) else (some false))) else (some false)) = some r := by rw [if_neg (show ¬ (false = true) by decide)] at H; exact H
           clear H
           have H := H1
           clear H1
           by_cases c42 : t212 = true
           rotate_left
           · replace c42 := Bool.eq_false_iff.mpr c42
             subst c42
             have H1 : (some false) = some r := by rw [if_neg (show ¬ (false = true) by decide)] at H; exact H
             clear H
             have H := H1
             clear H1
             obtain rfl := Option.some.inj H
             go_wp2
             go_ret
             exact ⟨by first | rfl | (simp [errW_none, errW_some] <;> rfl) | (simp [*, errW_none, errW_some] <;> rfl), by repeat (first | (with_reducible first | exact HB.out | apply below_alloc | apply pw_below_drewN | apply below_drew1 | refine below_set ?_ GE211.out) | exact HB.out)⟩
           subst c42
           have H1 : (if t230 = true then (if t229 ≥ (Go.bits .and .i64 a1_0 63) then (some (decide ((wrap64 (t229 + (wrap64 (1 + (Go.bits .and .i64 a1_2 15))))) ≤ (Go.bits .and .i64 a1_1 127)))) else (some false)) else (if t229 = 0 then (some true) else (some false))) = some r := by rw [if_pos rfl] at H; exact H
           clear H
           have H := H1
           clear H1
           by_cases c43 : t230 = true
           rotate_left
           · replace c43 := Bool.eq_false_iff.mpr c43
             subst c43
             have H1 : (if t229 = 0 then (some true) else (some false)) = some r := by rw [if_neg (show ¬ (false = true) by decide)] at H; exact H
             clear H
             have H := H1
             clear H1
             by_cases c45 : t229 = 0
             rotate_left
             · rw [if_neg c45] at H
               have c45b0 : (t229 == 0) = false := beq_eq_false_iff_ne.mpr c45
               have c45b1 : (t229 != 0) = true := bne_iff_ne.mpr c45
               obtain rfl := Option.some.inj H
               go_wp2
               go_ret
               exact ⟨by first | rfl | (simp [errW_none, errW_some] <;> rfl) | (simp [*, errW_none, errW_some] <;> rfl), by repeat (first | (with_reducible first | exact HB.out | apply below_alloc | apply pw_below_drewN | apply below_drew1 | refine below_set ?_ GE211.out) | exact HB.out)⟩
             rw [if_pos c45] at H
             have c45b0 : (t229 == 0) = true := beq_iff_eq.mpr c45
             have c45b1 : (t229 != 0) = false := bne_eq_false_iff_eq.mpr c45
             clear c45
             obtain rfl := Option.some.inj H
             go_wp2
             go_ret
             exact ⟨by first | rfl | (simp [errW_none, errW_some] <;> rfl) | (simp [*, errW_none, errW_some] <;> rfl), by repeat (first | (with_reducible first | exact HB.out | apply below_alloc | apply pw_below_drewN | apply below_drew1 | refine below_set ?_ GE211.out) | exact HB.out)⟩
           subst c43
           have H1 : (if t229 ≥ (Go.bits .and .i64 a1_0 63) then (some (decide ((wrap64 (t229 + (wrap64 (1 + (Go.bits .and .i64 a1_2 15))))) ≤ (Go.bits .and .i64 a1_1 127)))) else (some false)) = some r := by rw [if_pos rfl] at H; exact H
           clear H
           have H := H1
           clear H1
           by_cases c44 : t229 ≥ (Go.bits .and .i64 a1_0 63)
           · rw [if_pos c44] at H
             have c44b0 : decide ((Go.bits .and .i64 a1_0 63) ≤ t229) = true := decide_eq_true c44
             clear c44
             obtain rfl := Option.some.inj H
             go_wp2
             go_ret
             exact ⟨by first | rfl | (simp [errW_none, errW_some] <;> rfl) | (simp [*, errW_none, errW_some] <;> rfl), by repeat (first | (with_reducible first | exact HB.out | apply below_alloc | apply pw_below_drewN | apply below_drew1 | refine below_set ?_ GE211.out) | exact HB.out)⟩
           rw [if_neg c44] at H
           have c44b0 : decide ((Go.bits .and .i64 a1_0 63) ≤ t229) = false := decide_eq_false c44
           clear c44
           obtain rfl := Option.some.inj H
           go_wp2
           go_ret
           exact ⟨by first | rfl | (simp [errW_none, errW_some] <;> rfl) | (simp [*, errW_none, errW_some] <;> rfl), by repeat (first | (with_reducible first | exact HB.out | apply below_alloc | apply pw_below_drewN | apply below_drew1 | refine below_set ?_ GE211.out) | exact HB.out)⟩
         subst c27
         have H1 : (flyleaflaw15_RegionGaps.l2 kj23 t212 x6_1 (Go.bits .and .i64 a1_0 63) (Go.bits .and .i64 a1_1 127) (wrap64 (1 + (Go.bits .and .i64 a1_2 15))) t229 t230 x15_3 true x15_3) = some r := by rw [if_pos rfl] at H; exact H
         clear H
         have H := H1
         clear H1
         have H' := Aside0.mk H
         clear H
         go_wp2
         go_loopg [16, 17] kj23 (fun kq v16 v17 w' => ∃ (x16_5 : Bool) (x17_5 : Int), v16 = .bool x16_5 ∧ v17 = .int .i64 x17_5 ∧ Aside0 (flyleaflaw15_RegionGaps.l2 kq t212 x6_1 (Go.bits .and .i64 a1_0 63) (Go.bits .and .i64 a1_1 127) (wrap64 (1 + (Go.bits .and .i64 a1_2 15))) t229 t230 x15_3 x16_5 x17_5 = some r) ∧ Aside0 (kq ≤ kj23) ∧ Aside0 (Kd.R k41 41 w' w.heap.size (fun _ => True) (.slice Ao22 x6_1.length co22) x6_1) ∧ Aside0 (w'.heap[gb211]? = some (.cells #[.int .i64 a1_0, .int .i64 a1_1, .int .i64 a1_2] 67 (0, 0))) ∧ Aside0 (Below w.heap.size w w'))
         case atStart => exact ⟨(true), (x15_3), (by first | rfl | (simp; done) | (simp [*]; done)), (by first | rfl | (simp; done) | (simp [*]; done)), H', ⟨Nat.le_refl _⟩, ⟨by (with_reducible repeat (first | apply Kd.R_alloc | apply Kd.R_drewN | apply Kd.R_drew)); exact HO_6.out⟩, ⟨by (with_reducible repeat (first | refine blk_drewN ?_ _ | refine blk_drew ?_ | refine blk_alloc ?_ _)); exact BK211.out⟩, ⟨by repeat (first | (with_reducible first | exact HB.out | apply below_alloc | apply pw_below_drewN | apply below_drew1 | refine below_set ?_ GE211.out) | exact HB.out)⟩⟩
         case round =>
          clear H'
          try clear c1
          try clear c2
          try clear p2
          try clear q2
          try clear hx2
          try clear c3
          try clear c4
          try clear p6
          try clear c7
          try clear c7b0
          try clear c8
          try clear c9
          try clear c9b0
          try clear c10
          try clear c10b0
          try clear c13
          try clear c13b0
          try clear c13b1
          try clear p21
          try clear q21
          try clear hx21
          try clear c23
          try clear c25
          try clear c25b0
          try clear c26
          try clear c27
          try clear hcz21_0
          try clear hcz21_1
          try clear hcz21_2
          try clear hfz21_0
          try clear hfz21_1
          try clear hfz21_2
          try clear hx213_0
          try clear hx213_1
          try clear hx213_10
          try clear hx213_2
          try clear hx213_3
          try clear hx213_4
          try clear hx213_5
          try clear hx213_6
          try clear hx213_7
          try clear hx213_8
          try clear hx213_9
          try clear p2
          try clear p21
          try clear p213
          try clear p6
          try clear q2
          try clear q21
          try clear q213
          obtain ⟨x16_5, x17_5, rfl, rfl, HA, HK5, HO_6, BK211, HB⟩ := hrel
          cases gk with
          | zero => exact absurd HA.out (by simp [flyleaflaw15_RegionGaps.l2])
          | succ k5 =>
           have H := HA.out
           clear HA
           simp only [flyleaflaw15_RegionGaps.l2] at H
           by_cases c28 : x17_5 < (wrap64 (x15_3 + (wrap64 (1 + (Go.bits .and .i64 a1_2 15)))))
           rotate_left
           · rw [if_neg c28] at H
             have c28b0 : decide (x17_5 < (wrap64 (x15_3 + (wrap64 (1 + (Go.bits .and .i64 a1_2 15)))))) = false := decide_eq_false c28
             clear c28
             by_cases c39 : t230 = true
             rotate_left
             · replace c39 := Bool.eq_false_iff.mpr c39
               subst c39
               have H1 : (if (x16_5 != false) = true then (some false) else (flyleaflaw15_RegionGaps.l1 k5 t212 x6_1 (Go.bits .and .i64 a1_0 63) (Go.bits .and .i64 a1_1 127) (wrap64 (1 + (Go.bits .and .i64 a1_2 15))) t229 false (wrap64 (x15_3 + 1)))) = some r := by rw [if_neg (show ¬ (false = true) by decide)] at H; exact H
               clear H
               have H := H1
               clear H1
               by_cases c41 : (x16_5 != false) = true
               · rw [if_pos c41] at H
                 have c41b0 : (x16_5 != false) = true := c41
                 (try (have c41b1 : decide (x16_5 = false) = false := by simpa using c41))
                 (try (have c41b2 : (x16_5 == false) = false := by simpa using c41))
                 (try (have c41b3 : ¬ (x16_5 = false) := by simpa using c41))
                 clear c41
                 obtain rfl := Option.some.inj H
                 go_wp2
                 go_ret
                 exact ⟨by first | rfl | (simp [errW_none, errW_some] <;> rfl) | (simp [*, errW_none, errW_some] <;> rfl), by repeat (first | (with_reducible first | exact HB.out | apply below_alloc | apply pw_below_drewN | apply below_drew1 | refine below_set ?_ GE211.out) | exact HB.out)⟩
               rw [if_neg c41] at H
               have c41b0 : (x16_5 != false) = false := by simpa using c41
               (try (have c41b1 : decide (x16_5 = false) = true := by simpa using c41))
               (try (have c41b2 : (x16_5 == false) = true := by simpa using c41))
               clear c41
               have H' := Aside0.mk H
               clear H
               go_wp2
               go_roundg k5
               case measure => have := HK1.out; have := HJ5.out; have := HK3.out; have := HJ23.out; have := HK5.out; omega
               case rel => exact ⟨(wrap64 (x15_3 + 1)), (by first | rfl | (simp; done) | (simp [*]; done)), H', ⟨by have := HK1.out; have := HJ5.out; have := HK3.out; have := HJ23.out; have := HK5.out; omega⟩, ⟨by (with_reducible repeat (first | apply Kd.R_alloc | apply Kd.R_drewN | apply Kd.R_drew)); exact HO_6.out⟩, ⟨by (with_reducible repeat (first | refine blk_drewN ?_ _ | refine blk_drew ?_ | refine blk_alloc ?_ _)); exact BK211.out⟩, ⟨by repeat (first | (with_reducible first | exact HB.out | apply below_alloc | apply pw_below_drewN | apply below_drew1 | refine below_set ?_ GE211.out) | exact HB.out)⟩⟩
             subst c39
             have H1 : (if (x16_5 != (x15_3 == t229)) = true then (some false) else (flyleaflaw15_RegionGaps.l1 k5 t212 x6_1 (Go.bits .and .i64 a1_0 63) (Go.bits .and .i64 a1_1 127) (wrap64 (1 + (Go.bits .and .i64 a1_2 15))) t229 true (wrap64 (x15_3 + 1)))) = some r := by rw [if_pos rfl] at H; exact H
             clear H
             have H := H1
             clear H1
             by_cases c40 : (x16_5 != (x15_3 == t229)) = true
             · rw [if_pos c40] at H
               have c40b0 : (x16_5 != (x15_3 == t229)) = true := c40
               (try (have c40b1 : decide (x16_5 = (x15_3 == t229)) = false := by simpa using c40))
               (try (have c40b2 : (x16_5 == (x15_3 == t229)) = false := by simpa using c40))
               (try (have c40b3 : ¬ (x16_5 = (x15_3 == t229)) := by simpa using c40))
               clear c40
               obtain rfl := Option.some.inj H
               go_wp2
               go_ret
               exact ⟨by first | rfl | (simp [errW_none, errW_some] <;> rfl) | (simp [*, errW_none, errW_some] <;> rfl), by repeat (first | (with_reducible first | exact HB.out | apply below_alloc | apply pw_below_drewN | apply below_drew1 | refine below_set ?_ GE211.out) | exact HB.out)⟩
             rw [if_neg c40] at H
             have c40b0 : (x16_5 != (x15_3 == t229)) = false := by simpa using c40
             (try (have c40b1 : decide (x16_5 = (x15_3 == t229)) = true := by simpa using c40))
             (try (have c40b2 : (x16_5 == (x15_3 == t229)) = true := by simpa using c40))
             clear c40
             have H' := Aside0.mk H
             clear H
             go_wp2
             go_roundg k5
             case measure => have := HK1.out; have := HJ5.out; have := HK3.out; have := HJ23.out; have := HK5.out; omega
             case rel => exact ⟨(wrap64 (x15_3 + 1)), (by first | rfl | (simp; done) | (simp [*]; done)), H', ⟨by have := HK1.out; have := HJ5.out; have := HK3.out; have := HJ23.out; have := HK5.out; omega⟩, ⟨by (with_reducible repeat (first | apply Kd.R_alloc | apply Kd.R_drewN | apply Kd.R_drew)); exact HO_6.out⟩, ⟨by (with_reducible repeat (first | refine blk_drewN ?_ _ | refine blk_drew ?_ | refine blk_alloc ?_ _)); exact BK211.out⟩, ⟨by repeat (first | (with_reducible first | exact HB.out | apply below_alloc | apply pw_below_drewN | apply below_drew1 | refine below_set ?_ GE211.out) | exact HB.out)⟩⟩
           rw [if_pos c28] at H
           have c28b0 : decide (x17_5 < (wrap64 (x15_3 + (wrap64 (1 + (Go.bits .and .i64 a1_2 15)))))) = true := decide_eq_true c28
           clear c28
           replace H := Option.bind_eq_some_iff.mp H
           obtain ⟨⟨t231, t232, t233, t234, t235, t236, t237⟩, A290, H⟩ := H
           replace H : (if x16_5 = true then (flyleaflaw15_RegionGaps.l2 k5 t212 x6_1 (Go.bits .and .i64 a1_0 63) (Go.bits .and .i64 a1_1 127) (wrap64 (1 + (Go.bits .and .i64 a1_2 15))) t229 t230 x15_3 (!t237) (wrap64 (x17_5 + 1))) else (flyleaflaw15_RegionGaps.l2 k5 t212 x6_1 (Go.bits .and .i64 a1_0 63) (Go.bits .and .i64 a1_1 127) (wrap64 (1 + (Go.bits .and .i64 a1_2 15))) t229 t230 x15_3 false (wrap64 (x17_5 + 1)))) = some r := H
           have A29 := Aside0.mk A290
           clear A290
           by_cases c30 : x16_5 = true
           · subst c30
             have H1 : (flyleaflaw15_RegionGaps.l2 k5 t212 x6_1 (Go.bits .and .i64 a1_0 63) (Go.bits .and .i64 a1_1 127) (wrap64 (1 + (Go.bits .and .i64 a1_2 15))) t229 t230 x15_3 (!t237) (wrap64 (x17_5 + 1))) = some r := by rw [if_pos rfl] at H; exact H
             clear H
             have H := H1
             clear H1
             have H' := Aside0.mk H
             clear H
             go_wp2_with (first | ((with_reducible refine gate_callee (f := 37) rfl ?_); refine goesL_ (some 90) rfl rfl Try.func37 (by kernel_rfl) rfl #[.slice Ao22 x6_1.length co22, .int .i64 x17_5] rfl (by (try simp only [List.map_toArray, List.map_cons, List.map_nil]); first | done | rfl | (simp only [List.length_drop, List.length_take]; rfl)) ?_; (with_reducible refine (region_Find.calls k5 _ _ x6_1 x17_5 t231 t232 t233 t234 t235 t236 t237 _ ?side1 ?side2 A29.out).mono ?_); (case side1 => repeat (first | exact (Kd.R_reads' HO_6.out).2.2 | (with_reducible refine Kd.C_alloc ?_ _) | (with_reducible refine Kd.C_drewN ?_ _) | (with_reducible refine Kd.C_drew ?_))); (case side2 => exact (Kd.R_reads' HO_6.out).2.1); rintro e w31 ⟨rfl, hb⟩; refine ⟨_, rfl, ?_⟩; have n0_ := Aside0.mk (Kd.R_below (by (with_reducible repeat (first | apply Kd.R_alloc | apply Kd.R_drewN | apply Kd.R_drew)); exact HO_6.out) hb); have n1_ := Aside0.mk (blk_below (g := gb211) (o := .cells #[.int .i64 a1_0, .int .i64 a1_1, .int .i64 a1_2] 67 (0, 0)) (by (with_reducible repeat (first | refine blk_drewN ?_ _ | refine blk_drew ?_ | refine blk_alloc ?_ _)); exact BK211.out) hb); have n2_ := Aside0.mk (below_step (by repeat (first | (with_reducible first | exact HB.out | apply below_alloc | apply pw_below_drewN | apply below_drew1 | refine below_set ?_ GE211.out) | exact HB.out)) hb); clear HO_6; clear BK211; clear HB; have HO_6 := n0_; have BK211 := n1_; have HB := n2_; clear n0_ n1_ n2_; (try clear hb); (try clear hb2); (try clear hk); (try clear hi)) | ((with_reducible refine gate_dst (N := 18) rfl ?_); refine box_event ?hg (N := 18) ?hd (cs := #[.int .i64 0, .int .i64 0, .int .i64 0, .int .i64 0, .int .i64 0, .int .i64 0]) (t := 41) ?hr ?_; (case hd => rfl); (case hg => rfl); (case hr => first | (go_simp; done) | (go_simp; rfl)); intro gb238 hg w32 hbox hb; have n0_ := Aside0.mk (Kd.R_below (Kd.R_elderB (by (with_reducible repeat (first | apply Kd.R_alloc | apply Kd.R_drewN | apply Kd.R_drew)); exact HO_6.out) gb238 (Nat.le_of_eq hg.symm)) hb); have n1_ := Aside0.mk (blk_below (g := gb211) (o := .cells #[.int .i64 a1_0, .int .i64 a1_1, .int .i64 a1_2] 67 (0, 0)) (by (with_reducible repeat (first | refine blk_drewN ?_ _ | refine blk_drew ?_ | refine blk_alloc ?_ _)); exact BK211.out) hb); have n2_ := Aside0.mk (below_step (by repeat (first | (with_reducible first | exact HB.out | apply below_alloc | apply pw_below_drewN | apply below_drew1 | refine below_set ?_ GE211.out) | exact HB.out)) hb); have n3_ := Aside0.mk (hbox); have n4_ := Aside0.mk ((by rw [hg]; exact (below_size (by repeat (first | (with_reducible first | exact HB.out | apply below_alloc | apply pw_below_drewN | apply below_drew1 | refine below_set ?_ GE211.out) | exact HB.out))) : w.heap.size ≤ gb238)); have n5_ := Aside0.mk ((by rw [hg]; exact (below_size (by repeat (first | (with_reducible first | exact HB.out | apply below_alloc | apply pw_below_drewN | apply below_drew1 | refine below_set ?_ GE211.out) | exact HB.out))) : w.heap.size ≤ gb238)); have n6_ := Aside0.mk ((by rw [hg]; exact Nat.ne_of_lt (blk_lt (g := gb211) (o := .cells #[.int .i64 a1_0, .int .i64 a1_1, .int .i64 a1_2] 67 (0, 0)) (by (with_reducible repeat (first | refine blk_drewN ?_ _ | refine blk_drew ?_ | refine blk_alloc ?_ _)); exact BK211.out)) : gb211 ≠ gb238)); have n7_ := Aside0.mk ((by rw [hg]; exact Nat.ne_of_gt (blk_lt (g := gb211) (o := .cells #[.int .i64 a1_0, .int .i64 a1_1, .int .i64 a1_2] 67 (0, 0)) (by (with_reducible repeat (first | refine blk_drewN ?_ _ | refine blk_drew ?_ | refine blk_alloc ?_ _)); exact BK211.out)) : gb238 ≠ gb211)); clear HO_6; clear BK211; clear HB; have HO_6 := n0_; have BK211 := n1_; have HB := n2_; have BK238 := n3_; have GW238 := n4_; have GE238 := n5_; have NB211_238 := n6_; have NB238_211 := n7_; clear n0_ n1_ n2_ n3_ n4_ n5_ n6_ n7_; clear hb hbox hg; have hnb33 := NB238_211.out; have hnc33 := NB211_238.out; have hcz34_0 : w32.cell? ⟨gb238, 0, none⟩ = some (.int .i64 0) := (blk_cell BK238.out 0).trans rfl; have hcz34_1 : w32.cell? ⟨gb238, 1, none⟩ = some (.int .i64 0) := (blk_cell BK238.out 1).trans rfl; have hcz34_2 : w32.cell? ⟨gb238, 2, none⟩ = some (.int .i64 0) := (blk_cell BK238.out 2).trans rfl; have hcz34_3 : w32.cell? ⟨gb238, 3, none⟩ = some (.int .i64 0) := (blk_cell BK238.out 3).trans rfl; have hcz34_4 : w32.cell? ⟨gb238, 4, none⟩ = some (.int .i64 0) := (blk_cell BK238.out 4).trans rfl; have hcz34_5 : w32.cell? ⟨gb238, 5, none⟩ = some (.int .i64 0) := (blk_cell BK238.out 5).trans rfl; have hfz34_0 := blk_frozen BK238.out 0; have hfz34_1 := blk_frozen BK238.out 1; have hfz34_2 := blk_frozen BK238.out 2; have hfz34_3 := blk_frozen BK238.out 3; have hfz34_4 := blk_frozen BK238.out 4; have hfz34_5 := blk_frozen BK238.out 5))
             go_roundg k5
             case measure => have := HK1.out; have := HJ5.out; have := HK3.out; have := HJ23.out; have := HK5.out; omega
             case rel => exact ⟨(!t237), (wrap64 (x17_5 + 1)), (by first | rfl | (simp; done) | (simp [*]; done)), (by first | rfl | (simp; done) | (simp [*]; done)), H', ⟨by have := HK1.out; have := HJ5.out; have := HK3.out; have := HJ23.out; have := HK5.out; omega⟩, ⟨by (with_reducible repeat (first | apply Kd.R_alloc | apply Kd.R_drewN | apply Kd.R_drew)); exact Kd.R_mono (Kd.R_far (p := ⟨gb238, 5, none⟩) (Kd.R_far (p := ⟨gb238, 4, none⟩) (Kd.R_far (p := ⟨gb238, 3, none⟩) (Kd.R_far (p := ⟨gb238, 2, none⟩) (Kd.R_far (p := ⟨gb238, 1, none⟩) (Kd.R_far (p := ⟨gb238, 0, none⟩) (Kd.R_mono HO_6.out (fun k_ hk => (⟨hk, hk.2⟩ : _ ∧ k_ ≠ gb238))) (fun _ hk => hk.2) (.int .i64 t231)) (fun _ hk => hk.2) (.int .i64 t232)) (fun _ hk => hk.2) (.int .i64 t233)) (fun _ hk => hk.2) (.int .i64 t234)) (fun _ hk => hk.2) (.int .i64 t235)) (fun _ hk => hk.2) (.int .i64 t236)) (fun _ hk => trivial)⟩, ⟨by (with_reducible repeat (first | refine blk_drewN ?_ _ | refine blk_drew ?_ | refine blk_alloc ?_ _)); refine blk_far ?_ NB211_238.out _; (with_reducible repeat (first | refine blk_drewN ?_ _ | refine blk_drew ?_ | refine blk_alloc ?_ _)); refine blk_far ?_ NB211_238.out _; (with_reducible repeat (first | refine blk_drewN ?_ _ | refine blk_drew ?_ | refine blk_alloc ?_ _)); refine blk_far ?_ NB211_238.out _; (with_reducible repeat (first | refine blk_drewN ?_ _ | refine blk_drew ?_ | refine blk_alloc ?_ _)); refine blk_far ?_ NB211_238.out _; (with_reducible repeat (first | refine blk_drewN ?_ _ | refine blk_drew ?_ | refine blk_alloc ?_ _)); refine blk_far ?_ NB211_238.out _; (with_reducible repeat (first | refine blk_drewN ?_ _ | refine blk_drew ?_ | refine blk_alloc ?_ _)); refine blk_far ?_ NB211_238.out _; (with_reducible repeat (first | refine blk_drewN ?_ _ | refine blk_drew ?_ | refine blk_alloc ?_ _)); exact BK211.out⟩, ⟨by repeat (first | (with_reducible first | exact HB.out | apply below_alloc | apply pw_below_drewN | apply below_drew1 | refine below_set ?_ GE211.out | refine below_set ?_ GE238.out) | exact HB.out)⟩⟩
           replace c30 := Bool.eq_false_iff.mpr c30
           subst c30
           have H1 : (flyleaflaw15_RegionGaps.l2 k5 t212 x6_1 (Go.bits .and .i64 a1_0 63) (Go.bits .and .i64 a1_1 127) (wrap64 (1 + (Go.bits .and .i64 a1_2 15))) t229 t230 x15_3 false (wrap64 (x17_5 + 1))) = some r := by rw [if_neg (show ¬ (false = true) by decide)] at H; exact H
           clear H
           have H := H1
           clear H1
           have H' := Aside0.mk H
           clear H
           go_wp2_with (first | ((with_reducible refine gate_callee (f := 37) rfl ?_); refine goesL_ (some 90) rfl rfl Try.func37 (by kernel_rfl) rfl #[.slice Ao22 x6_1.length co22, .int .i64 x17_5] rfl (by (try simp only [List.map_toArray, List.map_cons, List.map_nil]); first | done | rfl | (simp only [List.length_drop, List.length_take]; rfl)) ?_; (with_reducible refine (region_Find.calls k5 _ _ x6_1 x17_5 t231 t232 t233 t234 t235 t236 t237 _ ?side1 ?side2 A29.out).mono ?_); (case side1 => repeat (first | exact (Kd.R_reads' HO_6.out).2.2 | (with_reducible refine Kd.C_alloc ?_ _) | (with_reducible refine Kd.C_drewN ?_ _) | (with_reducible refine Kd.C_drew ?_))); (case side2 => exact (Kd.R_reads' HO_6.out).2.1); rintro e w35 ⟨rfl, hb⟩; refine ⟨_, rfl, ?_⟩; have n0_ := Aside0.mk (Kd.R_below (by (with_reducible repeat (first | apply Kd.R_alloc | apply Kd.R_drewN | apply Kd.R_drew)); exact HO_6.out) hb); have n1_ := Aside0.mk (blk_below (g := gb211) (o := .cells #[.int .i64 a1_0, .int .i64 a1_1, .int .i64 a1_2] 67 (0, 0)) (by (with_reducible repeat (first | refine blk_drewN ?_ _ | refine blk_drew ?_ | refine blk_alloc ?_ _)); exact BK211.out) hb); have n2_ := Aside0.mk (below_step (by repeat (first | (with_reducible first | exact HB.out | apply below_alloc | apply pw_below_drewN | apply below_drew1 | refine below_set ?_ GE211.out) | exact HB.out)) hb); clear HO_6; clear BK211; clear HB; have HO_6 := n0_; have BK211 := n1_; have HB := n2_; clear n0_ n1_ n2_; (try clear hb); (try clear hb2); (try clear hk); (try clear hi)) | ((with_reducible refine gate_dst (N := 18) rfl ?_); refine box_event ?hg (N := 18) ?hd (cs := #[.int .i64 0, .int .i64 0, .int .i64 0, .int .i64 0, .int .i64 0, .int .i64 0]) (t := 41) ?hr ?_; (case hd => rfl); (case hg => rfl); (case hr => first | (go_simp; done) | (go_simp; rfl)); intro gb238 hg w36 hbox hb; have n0_ := Aside0.mk (Kd.R_below (Kd.R_elderB (by (with_reducible repeat (first | apply Kd.R_alloc | apply Kd.R_drewN | apply Kd.R_drew)); exact HO_6.out) gb238 (Nat.le_of_eq hg.symm)) hb); have n1_ := Aside0.mk (blk_below (g := gb211) (o := .cells #[.int .i64 a1_0, .int .i64 a1_1, .int .i64 a1_2] 67 (0, 0)) (by (with_reducible repeat (first | refine blk_drewN ?_ _ | refine blk_drew ?_ | refine blk_alloc ?_ _)); exact BK211.out) hb); have n2_ := Aside0.mk (below_step (by repeat (first | (with_reducible first | exact HB.out | apply below_alloc | apply pw_below_drewN | apply below_drew1 | refine below_set ?_ GE211.out) | exact HB.out)) hb); have n3_ := Aside0.mk (hbox); have n4_ := Aside0.mk ((by rw [hg]; exact (below_size (by repeat (first | (with_reducible first | exact HB.out | apply below_alloc | apply pw_below_drewN | apply below_drew1 | refine below_set ?_ GE211.out) | exact HB.out))) : w.heap.size ≤ gb238)); have n5_ := Aside0.mk ((by rw [hg]; exact (below_size (by repeat (first | (with_reducible first | exact HB.out | apply below_alloc | apply pw_below_drewN | apply below_drew1 | refine below_set ?_ GE211.out) | exact HB.out))) : w.heap.size ≤ gb238)); have n6_ := Aside0.mk ((by rw [hg]; exact Nat.ne_of_lt (blk_lt (g := gb211) (o := .cells #[.int .i64 a1_0, .int .i64 a1_1, .int .i64 a1_2] 67 (0, 0)) (by (with_reducible repeat (first | refine blk_drewN ?_ _ | refine blk_drew ?_ | refine blk_alloc ?_ _)); exact BK211.out)) : gb211 ≠ gb238)); have n7_ := Aside0.mk ((by rw [hg]; exact Nat.ne_of_gt (blk_lt (g := gb211) (o := .cells #[.int .i64 a1_0, .int .i64 a1_1, .int .i64 a1_2] 67 (0, 0)) (by (with_reducible repeat (first | refine blk_drewN ?_ _ | refine blk_drew ?_ | refine blk_alloc ?_ _)); exact BK211.out)) : gb238 ≠ gb211)); clear HO_6; clear BK211; clear HB; have HO_6 := n0_; have BK211 := n1_; have HB := n2_; have BK238 := n3_; have GW238 := n4_; have GE238 := n5_; have NB211_238 := n6_; have NB238_211 := n7_; clear n0_ n1_ n2_ n3_ n4_ n5_ n6_ n7_; clear hb hbox hg; have hnb37 := NB238_211.out; have hnc37 := NB211_238.out; have hcz38_0 : w36.cell? ⟨gb238, 0, none⟩ = some (.int .i64 0) := (blk_cell BK238.out 0).trans rfl; have hcz38_1 : w36.cell? ⟨gb238, 1, none⟩ = some (.int .i64 0) := (blk_cell BK238.out 1).trans rfl; have hcz38_2 : w36.cell? ⟨gb238, 2, none⟩ = some (.int .i64 0) := (blk_cell BK238.out 2).trans rfl; have hcz38_3 : w36.cell? ⟨gb238, 3, none⟩ = some (.int .i64 0) := (blk_cell BK238.out 3).trans rfl; have hcz38_4 : w36.cell? ⟨gb238, 4, none⟩ = some (.int .i64 0) := (blk_cell BK238.out 4).trans rfl; have hcz38_5 : w36.cell? ⟨gb238, 5, none⟩ = some (.int .i64 0) := (blk_cell BK238.out 5).trans rfl; have hfz38_0 := blk_frozen BK238.out 0; have hfz38_1 := blk_frozen BK238.out 1; have hfz38_2 := blk_frozen BK238.out 2; have hfz38_3 := blk_frozen BK238.out 3; have hfz38_4 := blk_frozen BK238.out 4; have hfz38_5 := blk_frozen BK238.out 5))
           go_roundg k5
           case measure => have := HK1.out; have := HJ5.out; have := HK3.out; have := HJ23.out; have := HK5.out; omega
           case rel => exact ⟨(false), (wrap64 (x17_5 + 1)), (by first | rfl | (simp; done) | (simp [*]; done)), (by first | rfl | (simp; done) | (simp [*]; done)), H', ⟨by have := HK1.out; have := HJ5.out; have := HK3.out; have := HJ23.out; have := HK5.out; omega⟩, ⟨by (with_reducible repeat (first | apply Kd.R_alloc | apply Kd.R_drewN | apply Kd.R_drew)); exact Kd.R_mono (Kd.R_far (p := ⟨gb238, 5, none⟩) (Kd.R_far (p := ⟨gb238, 4, none⟩) (Kd.R_far (p := ⟨gb238, 3, none⟩) (Kd.R_far (p := ⟨gb238, 2, none⟩) (Kd.R_far (p := ⟨gb238, 1, none⟩) (Kd.R_far (p := ⟨gb238, 0, none⟩) (Kd.R_mono HO_6.out (fun k_ hk => (⟨hk, hk.2⟩ : _ ∧ k_ ≠ gb238))) (fun _ hk => hk.2) (.int .i64 t231)) (fun _ hk => hk.2) (.int .i64 t232)) (fun _ hk => hk.2) (.int .i64 t233)) (fun _ hk => hk.2) (.int .i64 t234)) (fun _ hk => hk.2) (.int .i64 t235)) (fun _ hk => hk.2) (.int .i64 t236)) (fun _ hk => trivial)⟩, ⟨by (with_reducible repeat (first | refine blk_drewN ?_ _ | refine blk_drew ?_ | refine blk_alloc ?_ _)); refine blk_far ?_ NB211_238.out _; (with_reducible repeat (first | refine blk_drewN ?_ _ | refine blk_drew ?_ | refine blk_alloc ?_ _)); refine blk_far ?_ NB211_238.out _; (with_reducible repeat (first | refine blk_drewN ?_ _ | refine blk_drew ?_ | refine blk_alloc ?_ _)); refine blk_far ?_ NB211_238.out _; (with_reducible repeat (first | refine blk_drewN ?_ _ | refine blk_drew ?_ | refine blk_alloc ?_ _)); refine blk_far ?_ NB211_238.out _; (with_reducible repeat (first | refine blk_drewN ?_ _ | refine blk_drew ?_ | refine blk_alloc ?_ _)); refine blk_far ?_ NB211_238.out _; (with_reducible repeat (first | refine blk_drewN ?_ _ | refine blk_drew ?_ | refine blk_alloc ?_ _)); refine blk_far ?_ NB211_238.out _; (with_reducible repeat (first | refine blk_drewN ?_ _ | refine blk_drew ?_ | refine blk_alloc ?_ _)); exact BK211.out⟩, ⟨by repeat (first | (with_reducible first | exact HB.out | apply below_alloc | apply pw_below_drewN | apply below_drew1 | refine below_set ?_ GE211.out | refine below_set ?_ GE238.out) | exact HB.out)⟩⟩

end Go.Proofs.Ytafmeagfockdfaa.Rg
