-- Written by prn.py, a program of this session over the kit's printer. Not trusted: Lean checks it.
import Derived.Test.YtafmeagfockdfaaPl0
import Derived.Test.YtafmeagfockdfaaPl3
namespace Go.Proofs.Ytafmeagfockdfaa.Pl
open Go.RowKit Go.Proofs.YtafmeagfockdfaaW.PrintWords Go.Proofs.YtafmeagfockdfaaW.PrintLast Go.Proofs.YtafmeagfockdfaaW.PrintMore
attribute [local go_sem] max2_int min2_int max_two min_two max_three min_three max_four min_four   -- for this text's walks alone
set_option linter.unusedVariables false
set_option linter.unusedSimpArgs false

/-! ### flyleaflaw13_PlaceLow: function 5 -/
mutual
def flyleaflaw13_PlaceLow.j1 : Nat → Int → Bool → List (S34) → Option (Bool)
  | 0, _, _, _ => none
  | k + 1, x1, x5, x6 => if x6.length < 8796093022208 then ((some (x6 ++ [(⟨wrap64 (1 + (Go.bits .and .i64 x1 255)), 0⟩ : S34)] : List (S34))).bind fun y221 => ((place_All.f k y221 0 65536).bind fun bt224 => (if bt224.2 = 0 then (flyleaflaw13_PlaceLow.j2 k x5 y221 bt224.1 ((bt224.1.length : Int) != (y221.length : Int))) else (flyleaflaw13_PlaceLow.j2 k x5 y221 bt224.1 true)))) else (none)
def flyleaflaw13_PlaceLow.j2 : Nat → Bool → List (S34) → List Int → Bool → Option (Bool)
  | 0, _, _, _, _ => none
  | k + 1, x5, x6, x8, x65 => if x65 = true then (some false) else (if 0 ≤ (wrap64 ((x6.length : Int) - 1)) then (if (wrap64 ((x6.length : Int) - 1)) < (x6.length : Int) then (flyleaflaw13_PlaceLow.l1 k x5 x6 x8 (wrap64 ((x6.length : Int) - 1)) (wrap64 ((wrap64 (Int.tdiv (wrap64 (((rd_T34 x6 (wrap64 ((x6.length : Int) - 1))).f0) + 63)) 64)) * 64)) 0) else (none)) else (none))
def flyleaflaw13_PlaceLow.l1 : Nat → Bool → List (S34) → List Int → Int → Int → Int → Option (Bool)
  | 0, _, _, _, _, _, _ => none
  | k + 1, x5, x6, x8, x10, x11, x12 => if 0 ≤ x10 then (if x10 < (x8.length : Int) then (if x12 < (rd x8 x10) then (flyleaflaw13_PlaceLow.l2 k x5 x6 x8 x10 x11 x12 true 0) else (some x5)) else (none)) else (none)
def flyleaflaw13_PlaceLow.l2 : Nat → Bool → List (S34) → List Int → Int → Int → Int → Bool → Int → Option (Bool)
  | 0, _, _, _, _, _, _, _, _ => none
  | k + 1, x5, x6, x8, x10, x11, x12, x13, x14 => if x14 < x10 then (if 0 ≤ x14 then (if x14 < (x6.length : Int) then (if x13 = true then (if x14 < (x8.length : Int) then (if x12 ≥ (wrap64 ((rd x8 x14) + (wrap64 ((wrap64 (Int.tdiv (wrap64 (((rd_T34 x6 x14).f0) + 63)) 64)) * 64)))) then (flyleaflaw13_PlaceLow.l2 k x5 x6 x8 x10 x11 x12 true (wrap64 (x14 + 1))) else (flyleaflaw13_PlaceLow.l2 k x5 x6 x8 x10 x11 x12 (decide ((rd x8 x14) ≥ (wrap64 (x12 + x11)))) (wrap64 (x14 + 1)))) else (none)) else (flyleaflaw13_PlaceLow.l2 k x5 x6 x8 x10 x11 x12 false (wrap64 (x14 + 1)))) else (none)) else (none)) else (if x13 = true then (some false) else (flyleaflaw13_PlaceLow.l1 k x5 x6 x8 x10 x11 (wrap64 (x12 + 64))))
def flyleaflaw13_PlaceLow.l0 : Nat → List (S32) → Int → Bool → List (S34) → Int → Option (Bool)
  | 0, _, _, _, _, _ => none
  | k + 1, x0, x1, x5, x6, x7 => if x7 < (x0.length : Int) then (if x7 < 8 then (if 0 ≤ x7 then (if x6.length < 8796093022208 then (flyleaflaw13_PlaceLow.l0 k x0 x1 x5 (x6 ++ [(⟨wrap64 (1 + (Go.bits .and .i64 ((rd_T32 x0 x7).f0) 255)), wrap64 (64 * (Go.bits .and .i64 ((rd_T32 x0 x7).f1) 31))⟩ : S34)]) (wrap64 (x7 + 1))) else (none)) else (none)) else (flyleaflaw13_PlaceLow.j1 k x1 x5 x6)) else (flyleaflaw13_PlaceLow.j1 k x1 x5 x6)
end
def flyleaflaw13_PlaceLow.f (k : Nat) (l0 : List (S32)) (a1 : Int) : Option (Bool) := (flyleaflaw13_awake.f k).bind fun t215 => (flyleaflaw13_PlaceLow.l0 k l0 a1 t215 ([] : List (S34)) 0)
theorem flyleaflaw13_PlaceLow.mono_l : ∀ k, (∀ y0 y1 y2, LeO (flyleaflaw13_PlaceLow.j1 k y0 y1 y2) (flyleaflaw13_PlaceLow.j1 (k + 1) y0 y1 y2)) ∧ (∀ y0 y1 y2 y3, LeO (flyleaflaw13_PlaceLow.j2 k y0 y1 y2 y3) (flyleaflaw13_PlaceLow.j2 (k + 1) y0 y1 y2 y3)) ∧ (∀ y0 y1 y2 y3 y4 y5, LeO (flyleaflaw13_PlaceLow.l1 k y0 y1 y2 y3 y4 y5) (flyleaflaw13_PlaceLow.l1 (k + 1) y0 y1 y2 y3 y4 y5)) ∧ (∀ y0 y1 y2 y3 y4 y5 y6 y7, LeO (flyleaflaw13_PlaceLow.l2 k y0 y1 y2 y3 y4 y5 y6 y7) (flyleaflaw13_PlaceLow.l2 (k + 1) y0 y1 y2 y3 y4 y5 y6 y7)) ∧ (∀ y0 y1 y2 y3 y4, LeO (flyleaflaw13_PlaceLow.l0 k y0 y1 y2 y3 y4) (flyleaflaw13_PlaceLow.l0 (k + 1) y0 y1 y2 y3 y4))
  | 0 => ⟨fun _ _ _ r h => by simp [flyleaflaw13_PlaceLow.j1] at h, fun _ _ _ _ r h => by simp [flyleaflaw13_PlaceLow.j2] at h, fun _ _ _ _ _ _ r h => by simp [flyleaflaw13_PlaceLow.l1] at h, fun _ _ _ _ _ _ _ _ r h => by simp [flyleaflaw13_PlaceLow.l2] at h, fun _ _ _ _ _ r h => by simp [flyleaflaw13_PlaceLow.l0] at h⟩
  | k + 1 => by
    obtain ⟨ih0, ih1, ih2, ih3, ih4⟩ := flyleaflaw13_PlaceLow.mono_l k
    refine ⟨?_, ?_, ?_, ?_, ?_⟩
    · intro y0 y1 y2
      unfold flyleaflaw13_PlaceLow.j1
      repeat' first
      | (with_reducible exact ih0 _ _ _)
      | (with_reducible exact ih1 _ _ _ _)
      | (with_reducible exact ih2 _ _ _ _ _ _)
      | (with_reducible exact ih3 _ _ _ _ _ _ _ _)
      | (with_reducible exact ih4 _ _ _ _ _)
      | (with_reducible exact flyleaflaw13_awake.mono _)
      | (with_reducible exact place_All.mono _ _ _ _)
      | (with_reducible exact LeO.refl _)
      | (with_reducible exact LeO.none _)
      | (with_reducible refine LeO.ite ?_ ?_)
      | (with_reducible refine LeO.bind ?_ (fun _ => ?_))
      | exact ih0 _ _ _
      | exact ih1 _ _ _ _
      | exact ih2 _ _ _ _ _ _
      | exact ih3 _ _ _ _ _ _ _ _
      | exact ih4 _ _ _ _ _
      | exact flyleaflaw13_awake.mono _
      | exact place_All.mono _ _ _ _
      | exact LeO.none _
      | refine LeO.ite ?_ ?_
      | refine LeO.bind ?_ (fun _ => ?_)
    · intro y0 y1 y2 y3
      unfold flyleaflaw13_PlaceLow.j2
      repeat' first
      | (with_reducible exact ih0 _ _ _)
      | (with_reducible exact ih1 _ _ _ _)
      | (with_reducible exact ih2 _ _ _ _ _ _)
      | (with_reducible exact ih3 _ _ _ _ _ _ _ _)
      | (with_reducible exact ih4 _ _ _ _ _)
      | (with_reducible exact flyleaflaw13_awake.mono _)
      | (with_reducible exact place_All.mono _ _ _ _)
      | (with_reducible exact LeO.refl _)
      | (with_reducible exact LeO.none _)
      | (with_reducible refine LeO.ite ?_ ?_)
      | (with_reducible refine LeO.bind ?_ (fun _ => ?_))
      | exact ih0 _ _ _
      | exact ih1 _ _ _ _
      | exact ih2 _ _ _ _ _ _
      | exact ih3 _ _ _ _ _ _ _ _
      | exact ih4 _ _ _ _ _
      | exact flyleaflaw13_awake.mono _
      | exact place_All.mono _ _ _ _
      | exact LeO.none _
      | refine LeO.ite ?_ ?_
      | refine LeO.bind ?_ (fun _ => ?_)
    · intro y0 y1 y2 y3 y4 y5
      unfold flyleaflaw13_PlaceLow.l1
      repeat' first
      | (with_reducible exact ih0 _ _ _)
      | (with_reducible exact ih1 _ _ _ _)
      | (with_reducible exact ih2 _ _ _ _ _ _)
      | (with_reducible exact ih3 _ _ _ _ _ _ _ _)
      | (with_reducible exact ih4 _ _ _ _ _)
      | (with_reducible exact flyleaflaw13_awake.mono _)
      | (with_reducible exact place_All.mono _ _ _ _)
      | (with_reducible exact LeO.refl _)
      | (with_reducible exact LeO.none _)
      | (with_reducible refine LeO.ite ?_ ?_)
      | (with_reducible refine LeO.bind ?_ (fun _ => ?_))
      | exact ih0 _ _ _
      | exact ih1 _ _ _ _
      | exact ih2 _ _ _ _ _ _
      | exact ih3 _ _ _ _ _ _ _ _
      | exact ih4 _ _ _ _ _
      | exact flyleaflaw13_awake.mono _
      | exact place_All.mono _ _ _ _
      | exact LeO.none _
      | refine LeO.ite ?_ ?_
      | refine LeO.bind ?_ (fun _ => ?_)
    · intro y0 y1 y2 y3 y4 y5 y6 y7
      unfold flyleaflaw13_PlaceLow.l2
      repeat' first
      | (with_reducible exact ih0 _ _ _)
      | (with_reducible exact ih1 _ _ _ _)
      | (with_reducible exact ih2 _ _ _ _ _ _)
      | (with_reducible exact ih3 _ _ _ _ _ _ _ _)
      | (with_reducible exact ih4 _ _ _ _ _)
      | (with_reducible exact flyleaflaw13_awake.mono _)
      | (with_reducible exact place_All.mono _ _ _ _)
      | (with_reducible exact LeO.refl _)
      | (with_reducible exact LeO.none _)
      | (with_reducible refine LeO.ite ?_ ?_)
      | (with_reducible refine LeO.bind ?_ (fun _ => ?_))
      | exact ih0 _ _ _
      | exact ih1 _ _ _ _
      | exact ih2 _ _ _ _ _ _
      | exact ih3 _ _ _ _ _ _ _ _
      | exact ih4 _ _ _ _ _
      | exact flyleaflaw13_awake.mono _
      | exact place_All.mono _ _ _ _
      | exact LeO.none _
      | refine LeO.ite ?_ ?_
      | refine LeO.bind ?_ (fun _ => ?_)
    · intro y0 y1 y2 y3 y4
      unfold flyleaflaw13_PlaceLow.l0
      repeat' first
      | (with_reducible exact ih0 _ _ _)
      | (with_reducible exact ih1 _ _ _ _)
      | (with_reducible exact ih2 _ _ _ _ _ _)
      | (with_reducible exact ih3 _ _ _ _ _ _ _ _)
      | (with_reducible exact ih4 _ _ _ _ _)
      | (with_reducible exact flyleaflaw13_awake.mono _)
      | (with_reducible exact place_All.mono _ _ _ _)
      | (with_reducible exact LeO.refl _)
      | (with_reducible exact LeO.none _)
      | (with_reducible refine LeO.ite ?_ ?_)
      | (with_reducible refine LeO.bind ?_ (fun _ => ?_))
      | exact ih0 _ _ _
      | exact ih1 _ _ _ _
      | exact ih2 _ _ _ _ _ _
      | exact ih3 _ _ _ _ _ _ _ _
      | exact ih4 _ _ _ _ _
      | exact flyleaflaw13_awake.mono _
      | exact place_All.mono _ _ _ _
      | exact LeO.none _
      | refine LeO.ite ?_ ?_
      | refine LeO.bind ?_ (fun _ => ?_)
theorem flyleaflaw13_PlaceLow.mono : ∀ a0 a1 k, LeO (flyleaflaw13_PlaceLow.f k a0 a1) (flyleaflaw13_PlaceLow.f (k + 1) a0 a1) := by
  intro a0 a1 k
  obtain ⟨ih0, ih1, ih2, ih3, ih4⟩ := flyleaflaw13_PlaceLow.mono_l k
  unfold flyleaflaw13_PlaceLow.f
  repeat' first
      | (with_reducible exact ih0 _ _ _)
      | (with_reducible exact ih1 _ _ _ _)
      | (with_reducible exact ih2 _ _ _ _ _ _)
      | (with_reducible exact ih3 _ _ _ _ _ _ _ _)
      | (with_reducible exact ih4 _ _ _ _ _)
      | (with_reducible exact flyleaflaw13_awake.mono _)
      | (with_reducible exact place_All.mono _ _ _ _)
      | (with_reducible exact LeO.refl _)
      | (with_reducible exact LeO.none _)
      | (with_reducible refine LeO.ite ?_ ?_)
      | (with_reducible refine LeO.bind ?_ (fun _ => ?_))
      | exact ih0 _ _ _
      | exact ih1 _ _ _ _
      | exact ih2 _ _ _ _ _ _
      | exact ih3 _ _ _ _ _ _ _ _
      | exact ih4 _ _ _ _ _
      | exact flyleaflaw13_awake.mono _
      | exact place_All.mono _ _ _ _
      | exact LeO.none _
      | refine LeO.ite ?_ ?_
      | refine LeO.bind ?_ (fun _ => ?_)
def flyleaflaw13_PlaceLow.T6 : Bool × List (List Nat × List Nat) := (true, [([], []), ([], []), ([], []), ([1, 2], [1, 2]), ([3], [3]), ([4], [4]), ([5], [5]), ([6], [6]), ([], []), ([], []), ([8, 9], [8, 9]), ([10], [10]), ([11], [11]), ([12], [12]), ([13], [13]), ([7, 14], [7, 14]), ([15], [15]), ([0, 16], [0, 16]), ([17, 17, 0, 1, 2, 3, 4, 5, 6, 7, 8, 9, 10, 11, 12, 13, 14, 15, 16, 17], [0, 17])])
def flyleaflaw13_PlaceLow.B6 : List Nat := [0, 0, 0, 6, 14, 30, 62, 126, 0, 0, 768, 1792, 3840, 7936, 16128, 32766, 65534, 131071, 262143]
theorem flyleaflaw13_PlaceLow.tab6 : rtab .any (opsOf Try.f5 6) = flyleaflaw13_PlaceLow.T6 := by kernel_rfl
theorem flyleaflaw13_PlaceLow.bits6 : waitsOk flyleaflaw13_PlaceLow.T6.2 flyleaflaw13_PlaceLow.B6 = true := by kernel_rfl
set_option maxHeartbeats 8000000 in
set_option maxRecDepth 100000 in
theorem flyleaflaw13_PlaceLow.calls (k : Nat) (A0 : Option Addr) (c0 : Nat) (l0 : List (S32)) (a1 : Int) (r : Bool) (w : World) (hr0 : Kd.C k32 w A0 l0.length l0) (hc0 : l0.length ≤ c0) (h : flyleaflaw13_PlaceLow.f k l0 a1 = some r) :
    Calls Try.prog 5 #[.slice A0 l0.length c0, .int .i64 a1] w fun e w' => e = .returned (.bool r) ∧ Below w.heap.size w w' := by
  have hu34 := Try.underlying34
  have HR0 := Aside0.mk hr0
  have HC0 := Aside0.mk hc0
  clear hr0 hc0
  have HB := Aside0.mk (Below.refl w.heap.size w)
  have H : ((flyleaflaw13_awake.f k).bind fun t215 => (flyleaflaw13_PlaceLow.l0 k l0 a1 t215 ([] : List (S34)) 0)) = some r := h
  clear h
  replace H := Option.bind_eq_some_iff.mp H
  obtain ⟨t215, A30, H⟩ := H
  replace H : (flyleaflaw13_PlaceLow.l0 k l0 a1 t215 ([] : List (S34)) 0) = some r := H
  have A3 := Aside0.mk A30
  clear A30
  have HC4 := Aside0.mk H
  clear H
  go_enter Try.func5, Try.ntmps5
  go_upto_block 0 with (first | ((with_reducible refine gate_callee (f := 17) rfl ?_); refine goesL_ (some 16) rfl rfl Try.func17 (by kernel_rfl) rfl #[] rfl (by (try simp only [List.map_toArray, List.map_cons, List.map_nil]); first | done | rfl | (simp only [List.length_drop, List.length_take]; rfl)) ?_; (with_reducible refine (flyleaflaw13_awake.calls k  t215 _ A3.out).mono ?_); rintro e w5 ⟨rfl, hb⟩; refine ⟨_, rfl, ?_⟩; have n0_ := Aside0.mk (below_step (by repeat (first | (with_reducible first | exact HB.out | apply below_alloc | apply pw_below_drewN | apply below_drew1) | exact HB.out)) hb); clear HB; have HB := n0_; clear n0_; (try clear hb); (try clear hb2); (try clear hk); (try clear hi)))
  (try simp only [Act.put, List.setIfInBounds_toArray, List.set_cons_zero, List.set_cons_succ])
  go_cut [6] (fun v6 wc => ∃ (kq : Nat) (x6_3 : List (S34)), Aside0 (flyleaflaw13_PlaceLow.j1 kq a1 t215 x6_3 = some r) ∧ Aside0 (kq ≤ k) ∧ Aside0 (Kd.R k34 34 wc w.heap.size (fun _ => True) v6 x6_3) ∧ Aside0 (Below w.heap.size w wc))
  case first =>
    have H := HC4.out
    clear HC4
    have H' := Aside0.mk H
    clear H
    go_wp2
    go_loopg [6, 7] k (fun kq v6 v7 w' => ∃ (x6_1 : List (S34)) (x7_1 : Int), v7 = .int .i64 x7_1 ∧ Aside0 (flyleaflaw13_PlaceLow.l0 kq l0 a1 t215 x6_1 x7_1 = some r) ∧ Aside0 (kq ≤ k) ∧ Aside0 (Kd.R k34 34 w' w.heap.size (fun _ => True) v6 x6_1) ∧ Aside0 (Below w.heap.size w w'))
    case atStart => exact ⟨(([] : List (S34))), (0), (by first | rfl | (simp; done) | (simp [*]; done)), H', ⟨Nat.le_refl _⟩, ⟨by first | exact Kd.R_nil _ _ _ _ _ | exact Kd.N_nil _ _ _ _ _ | exact Kd.V_nil _ _ _ _ _ | exact Kd.Q_nil _ _ _ _ _ | exact Kd.S_nil _ _ _ _ _⟩, ⟨by repeat (first | (with_reducible first | exact HB.out | apply below_alloc | apply pw_below_drewN | apply below_drew1) | exact HB.out)⟩⟩
    case round =>
      clear H'
      try clear c1
      try clear p2
      try clear c5
      obtain ⟨x6_1, x7_1, rfl, HA, HK1, HO_6, HB⟩ := hrel
      cases gk with
      | zero => exact absurd HA.out (by simp [flyleaflaw13_PlaceLow.l0])
      | succ k1 =>
        have H := HA.out
        clear HA
        simp only [flyleaflaw13_PlaceLow.l0] at H
        by_cases c6 : x7_1 < (l0.length : Int)
        · rw [if_pos c6] at H
          have c6b0 : decide (x7_1 < (l0.length : Int)) = true := decide_eq_true c6
          clear c6
          (first | rw [c6b0] | (simp only [i64_w, i32_w]; rw [c6b0]) | skip)
          by_cases c7 : x7_1 < 8
          · rw [if_pos c7] at H
            have c7b0 : decide (x7_1 < 8) = true := decide_eq_true c7
            clear c7
            by_cases c8 : 0 ≤ x7_1
            · rw [if_pos c8] at H
              have c8b0 : decide (0 ≤ x7_1) = true := decide_eq_true c8
              clear c8
              by_cases c9 : x6_1.length < 8796093022208
              · rw [if_pos c9] at H
                have LMc9 := Aside0.mk c9
                clear c9
                obtain ⟨y218, hy218⟩ : ∃ y_ : List (S34), y_ = (x6_1 ++ [(⟨wrap64 (1 + (Go.bits .and .i64 ((rd_T32 l0 x7_1).f0) 255)), wrap64 (64 * (Go.bits .and .i64 ((rd_T32 l0 x7_1).f1) 31))⟩ : S34)]) := ⟨_, rfl⟩
                replace H : (flyleaflaw13_PlaceLow.l0 k1 l0 a1 t215 y218 (wrap64 (x7_1 + 1))) = some r := by first | (rw [hy218]; with_reducible exact H) | (have H2_ := (Option.bind_some _ _).symm.trans H; rw [hy218]; with_reducible exact H2_) | (have H2_ := (Option.bind_some _ _).symm.trans H; with_reducible exact H2_) | with_reducible exact H | (rw [hy218]; exact H) | exact H
                have Ny218 := Aside0.mk hy218
                clear hy218
                have H' := Aside0.mk H
                clear H
                try go_wp2
                have n0_ := Aside0.mk (Kd.R_drew HO_6.out)
                have n1_ := Aside0.mk (below_drew1 HB.out)
                clear HO_6
                clear HB
                have HO_6 := n0_
                have HB := n1_
                clear n0_ n1_
                have p216 : 0 ≤ (x7_1 : Int) := of_decide_eq_true (by first | (with_reducible assumption) | assumption)
                have q216 : x7_1 < (l0.length : Int) := of_decide_eq_true (by first | (with_reducible assumption) | assumption)
                obtain ⟨ad216, e216, hx216_0, hx216_1⟩ := at_T32 HR0.out x7_1 p216 q216
                have hw216_1 := hx216_1
                have hw216_0 := hx216_0
                cases e216
                replace hx216_0 := (HB.out.cell (World.block_lt_of_cell? w _ hx216_0)).trans hx216_0
                replace hx216_1 := (HB.out.cell (World.block_lt_of_cell? w _ hx216_1)).trans hx216_1
                replace p216 := eq_true p216
                replace q216 := eq_true q216
                have p217 : 0 ≤ (x7_1 : Int) := of_decide_eq_true (by first | (with_reducible assumption) | assumption)
                have q217 : x7_1 < (l0.length : Int) := of_decide_eq_true (by first | (with_reducible assumption) | assumption)
                obtain ⟨ad217, e217, hx217_0, hx217_1⟩ := at_T32 HR0.out x7_1 p217 q217
                have hw217_1 := hx217_1
                have hw217_0 := hx217_0
                obtain rfl : ad216 = ad217 := (by injection e217)
                replace hx217_0 := (HB.out.cell (World.block_lt_of_cell? w _ hx217_0)).trans hx217_0
                replace hx217_1 := (HB.out.cell (World.block_lt_of_cell? w _ hx217_1)).trans hx217_1
                replace p217 := eq_true p217
                replace q217 := eq_true q217
                refine start_ (n := 19) (S := fun w' => w'.cell? (ad216.add ((x7_1).toNat * 2)) = some (.int .i64 ((rd_T32 l0 x7_1).f0)) ∧ w'.cell? ⟨(ad216.add ((x7_1).toNat * 2)).block, (ad216.add ((x7_1).toNat * 2)).off + 1, none⟩ = some (.int .i64 ((rd_T32 l0 x7_1).f1)) ∧ w'.cell? (ad216.add ((x7_1).toNat * 2)) = some (.int .i64 ((rd_T32 l0 x7_1).f0)) ∧ w'.cell? ⟨(ad216.add ((x7_1).toNat * 2)).block, (ad216.add ((x7_1).toNat * 2)).off + 1, none⟩ = some (.int .i64 ((rd_T32 l0 x7_1).f1))) (ds := []) #[false, false, false, false, false, false, false, false, false, false, false, false, false, false, false, false, false, false, false] (by kernel_rfl) rfl rfl ⟨((HB.out.cell (World.block_lt_of_cell? w _ hw216_0)).trans hw216_0), ((HB.out.cell (World.block_lt_of_cell? w _ hw216_1)).trans hw216_1), ((HB.out.cell (World.block_lt_of_cell? w _ hw217_0)).trans hw217_0), ((HB.out.cell (World.block_lt_of_cell? w _ hw217_1)).trans hw217_1)⟩ (fun hHeld => ?_); refine with_tabW flyleaflaw13_PlaceLow.tab6 flyleaflaw13_PlaceLow.bits6 (fun HT_ HW_ => ?_)
                generalize wr.drew = w10 at HO_6 HB hx216_0 hx216_1 hx217_0 hx217_1 hHeld ⊢
                refine pure_ (i := 0) (N := some 27) (v := ?_) (a' := ?_) #[true, false, false, false, false, false, false, false, false, false, false, false, false, false, false, false, false, false, false] rfl rfl (any_of HT_.out (by kernel_rfl)) (fun _ _ _ h => h) (Or.inl ⟨by rfl, ?_⟩) ?_ ?_
                rotate_left
                · intro w'
                  go_simp
                  with_reducible rfl
                rotate_left
                · simp only [Act.put, List.setIfInBounds_toArray, List.set_cons_zero, List.set_cons_succ, i64_w, i32_w]
                  rfl
                refine pure_ (i := 1) (N := some 28) (v := ?_) (a' := ?_) #[true, true, false, false, false, false, false, false, false, false, false, false, false, false, false, false, false, false, false] rfl rfl (any_of HT_.out (by kernel_rfl)) (fun _ _ _ h => h) (Or.inl ⟨by rfl, ?_⟩) ?_ ?_
                rotate_left
                · intro w'
                  go_simp
                  with_reducible rfl
                rotate_left
                · simp only [Act.put, List.setIfInBounds_toArray, List.set_cons_zero, List.set_cons_succ, i64_w, i32_w]
                  rfl
                refine pure_ (i := 2) (N := some 29) (v := ?_) (a' := ?_) #[true, true, true, false, false, false, false, false, false, false, false, false, false, false, false, false, false, false, false] rfl rfl (any_of HT_.out (by kernel_rfl)) (fun _ _ _ h => h) (Or.inl ⟨by rfl, ?_⟩) ?_ ?_
                rotate_left
                · intro w'
                  go_simp
                  with_reducible rfl
                rotate_left
                · simp only [Act.put, List.setIfInBounds_toArray, List.set_cons_zero, List.set_cons_succ, i64_w, i32_w]
                  rfl
                refine pure_ (i := 3) (N := some 30) (v := ?_) (a' := ?_) #[true, true, true, true, false, false, false, false, false, false, false, false, false, false, false, false, false, false, false] rfl rfl (any_of HT_.out (by kernel_rfl)) (fun _ _ _ h => h) (Or.inl ⟨by rfl, ?_⟩) ?_ ?_
                rotate_left
                · intro w'
                  go_simp
                  with_reducible rfl
                rotate_left
                · simp only [Act.put, List.setIfInBounds_toArray, List.set_cons_zero, List.set_cons_succ, i64_w, i32_w]
                  rfl
                refine pure_ (i := 4) (N := some 31) (v := ?_) (a' := ?_) #[true, true, true, true, true, false, false, false, false, false, false, false, false, false, false, false, false, false, false] rfl rfl (any_of HT_.out (by kernel_rfl)) (fun _ _ _ h => h) (Or.inl ⟨by rfl, ?_⟩) ?_ ?_
                rotate_left
                · intro w'
                  go_simp
                  with_reducible rfl
                rotate_left
                · simp only [Act.put, List.setIfInBounds_toArray, List.set_cons_zero, List.set_cons_succ, i64_w, i32_w]
                  rfl
                refine pure_ (i := 8) (N := some 35) (v := ?_) (a' := ?_) #[true, true, true, true, true, false, false, false, true, false, false, false, false, false, false, false, false, false, false] rfl rfl (any_of HT_.out (by kernel_rfl)) (fun _ _ _ h => h) (Or.inl ⟨by rfl, ?_⟩) ?_ ?_
                rotate_left
                · intro w'
                  go_simp
                  with_reducible rfl
                rotate_left
                · simp only [Act.put, List.setIfInBounds_toArray, List.set_cons_zero, List.set_cons_succ, i64_w, i32_w]
                  rfl
                refine pure_ (i := 9) (N := some 36) (v := ?_) (a' := ?_) #[true, true, true, true, true, false, false, false, true, true, false, false, false, false, false, false, false, false, false] rfl rfl (any_of HT_.out (by kernel_rfl)) (fun _ _ _ h => h) (Or.inl ⟨by rfl, ?_⟩) ?_ ?_
                rotate_left
                · intro w'
                  go_simp
                  with_reducible rfl
                rotate_left
                · simp only [Act.put, List.setIfInBounds_toArray, List.set_cons_zero, List.set_cons_succ, i64_w, i32_w]
                  rfl
                refine pure_ (i := 10) (N := some 37) (v := ?_) (a' := ?_) #[true, true, true, true, true, false, false, false, true, true, true, false, false, false, false, false, false, false, false] rfl rfl (any_of HT_.out (by kernel_rfl)) (fun _ _ _ h => h) (Or.inl ⟨by rfl, ?_⟩) ?_ ?_
                rotate_left
                · intro w'
                  go_simp
                  with_reducible rfl
                rotate_left
                · simp only [Act.put, List.setIfInBounds_toArray, List.set_cons_zero, List.set_cons_succ, i64_w, i32_w]
                  rfl
                refine pure_ (i := 11) (N := some 38) (v := ?_) (a' := ?_) #[true, true, true, true, true, false, false, false, true, true, true, true, false, false, false, false, false, false, false] rfl rfl (any_of HT_.out (by kernel_rfl)) (fun _ _ _ h => h) (Or.inl ⟨by rfl, ?_⟩) ?_ ?_
                rotate_left
                · intro w'
                  go_simp
                  with_reducible rfl
                rotate_left
                · simp only [Act.put, List.setIfInBounds_toArray, List.set_cons_zero, List.set_cons_succ, i64_w, i32_w]
                  rfl
                refine take_ (i := 5) (N := some 32) (v := ?_) (a' := ?_) #[true, true, true, true, true, true, false, false, true, true, true, true, false, false, false, false, false, false, false] rfl rfl (take_ofW HT_.out HW_.out (by kernel_rfl)) (fun _ _ _ h => h) (Or.inl ⟨by rfl, ?_⟩) hHeld ?_ ?_
                rotate_left
                · rintro w' ⟨s0, s1, s2, s3⟩
                  go_simp
                  with_reducible rfl
                rotate_left
                · simp only [Act.put, List.setIfInBounds_toArray, List.set_cons_zero, List.set_cons_succ, i64_w, i32_w]
                  rfl
                refine pure_ (i := 6) (N := some 33) (v := ?_) (a' := ?_) #[true, true, true, true, true, true, true, false, true, true, true, true, false, false, false, false, false, false, false] rfl rfl (any_of HT_.out (by kernel_rfl)) (fun _ _ _ h => h) (Or.inl ⟨by rfl, ?_⟩) ?_ ?_
                rotate_left
                · intro w'
                  go_simp
                  with_reducible rfl
                rotate_left
                · simp only [Act.put, List.setIfInBounds_toArray, List.set_cons_zero, List.set_cons_succ, i64_w, i32_w]
                  rfl
                refine pure_ (i := 7) (N := some 34) (v := ?_) (a' := ?_) #[true, true, true, true, true, true, true, true, true, true, true, true, false, false, false, false, false, false, false] rfl rfl (any_of HT_.out (by kernel_rfl)) (fun _ _ _ h => h) (Or.inl ⟨by rfl, ?_⟩) ?_ ?_
                rotate_left
                · intro w'
                  go_simp
                  with_reducible rfl
                rotate_left
                · simp only [Act.put, List.setIfInBounds_toArray, List.set_cons_zero, List.set_cons_succ, i64_w, i32_w]
                  rfl
                refine take_ (i := 12) (N := some 39) (v := ?_) (a' := ?_) #[true, true, true, true, true, true, true, true, true, true, true, true, true, false, false, false, false, false, false] rfl rfl (take_ofW HT_.out HW_.out (by kernel_rfl)) (fun _ _ _ h => h) (Or.inl ⟨by rfl, ?_⟩) hHeld ?_ ?_
                rotate_left
                · rintro w' ⟨s0, s1, s2, s3⟩
                  go_simp
                  with_reducible rfl
                rotate_left
                · simp only [Act.put, List.setIfInBounds_toArray, List.set_cons_zero, List.set_cons_succ, i64_w, i32_w]
                  rfl
                refine pure_ (i := 13) (N := some 40) (v := ?_) (a' := ?_) #[true, true, true, true, true, true, true, true, true, true, true, true, true, true, false, false, false, false, false] rfl rfl (any_of HT_.out (by kernel_rfl)) (fun _ _ _ h => h) (Or.inl ⟨by rfl, ?_⟩) ?_ ?_
                rotate_left
                · intro w'
                  go_simp
                  with_reducible rfl
                rotate_left
                · simp only [Act.put, List.setIfInBounds_toArray, List.set_cons_zero, List.set_cons_succ, i64_w, i32_w]
                  rfl
                refine pure_ (i := 14) (N := some 41) (v := ?_) (a' := ?_) #[true, true, true, true, true, true, true, true, true, true, true, true, true, true, true, false, false, false, false] rfl rfl (any_of HT_.out (by kernel_rfl)) (fun _ _ _ h => h) (Or.inl ⟨by rfl, ?_⟩) ?_ ?_
                rotate_left
                · intro w'
                  go_simp
                  with_reducible rfl
                rotate_left
                · simp only [Act.put, List.setIfInBounds_toArray, List.set_cons_zero, List.set_cons_succ, i64_w, i32_w]
                  rfl
                refine pure_ (i := 15) (N := some 42) (v := ?_) (a' := ?_) #[true, true, true, true, true, true, true, true, true, true, true, true, true, true, true, true, false, false, false] rfl rfl (any_of HT_.out (by kernel_rfl)) (fun _ _ _ h => h) (Or.inl ⟨by rfl, ?_⟩) ?_ ?_
                rotate_left
                · intro w'
                  go_simp
                  with_reducible rfl
                rotate_left
                · simp only [Act.put, List.setIfInBounds_toArray, List.set_cons_zero, List.set_cons_succ, i64_w, i32_w]
                  rfl
                refine one_ (i := 16) (N := some 43) #[true, true, true, true, true, true, true, true, true, true, true, true, true, true, true, true, true, false, false] rfl rfl (one_of HT_.out (by kernel_rfl)) (by decide) (fun K hK => ?_)
                refine value_ (w1 := ?_) (v := ?_) (by rfl) rfl ?_ ?_
                rotate_left 2
                · go_simp
                  constructor
                  · rfl
                  · rfl
                refine hK.out _ _ ⟨(World.cell?_alloc_lt _ _ _ (World.block_lt_of_cell? _ _ (((HB.out.cell (World.block_lt_of_cell? w _ hw216_0)).trans hw216_0)))).trans (((HB.out.cell (World.block_lt_of_cell? w _ hw216_0)).trans hw216_0)), (World.cell?_alloc_lt _ _ _ (World.block_lt_of_cell? _ _ (((HB.out.cell (World.block_lt_of_cell? w _ hw216_1)).trans hw216_1)))).trans (((HB.out.cell (World.block_lt_of_cell? w _ hw216_1)).trans hw216_1)), (World.cell?_alloc_lt _ _ _ (World.block_lt_of_cell? _ _ (((HB.out.cell (World.block_lt_of_cell? w _ hw217_0)).trans hw217_0)))).trans (((HB.out.cell (World.block_lt_of_cell? w _ hw217_0)).trans hw217_0)), (World.cell?_alloc_lt _ _ _ (World.block_lt_of_cell? _ _ (((HB.out.cell (World.block_lt_of_cell? w _ hw217_1)).trans hw217_1)))).trans (((HB.out.cell (World.block_lt_of_cell? w _ hw217_1)).trans hw217_1))⟩ (fun hHeld => ?_)
                clear hK K
                refine norm_ (a' := ?_) ?_ ?_
                rotate_left
                · show Act.put _ (some 43) _ = _
                  simp only [Act.put, List.setIfInBounds_toArray, List.set_cons_zero, List.set_cons_succ, i64_w, i32_w]
                  rfl
                refine one_ (i := 17) (N := some 44) #[true, true, true, true, true, true, true, true, true, true, true, true, true, true, true, true, true, true, false] rfl rfl (one_of HT_.out (by kernel_rfl)) (by decide) (fun K hK => ?_)
                refine Kd.R_append_step k34 (w0 := w) w.heap.size (by rfl) (.tmp 27) (.tmp 43) 22 34 (.agg #[(.int .i64 0), (.int .i64 0)]) 16 rfl Try.underlying22 info34 rfl (by decide) (by omega) u6 x6_1 (⟨wrap64 (1 + (Go.bits .and .i64 ((rd_T32 l0 x7_1).f0) 255)), wrap64 (64 * (Go.bits .and .i64 ((rd_T32 l0 x7_1).f1) 31))⟩ : S34) [.int .i64 (wrap64 (1 + (Go.bits .and .i64 ((rd_T32 l0 x7_1).f0) 255))), .int .i64 (wrap64 (64 * (Go.bits .and .i64 ((rd_T32 l0 x7_1).f1) 31)))] (fun _ => True) (fun _ => False) rfl rfl ?aP (fun _ hk => hk.elim) ?aF ?aO ?aB ?aS ?aL ?_
                (case aP => exact k34_mkM _ _ _ (⟨wrap64 (1 + (Go.bits .and .i64 ((rd_T32 l0 x7_1).f0) 255)), wrap64 (64 * (Go.bits .and .i64 ((rd_T32 l0 x7_1).f1) 31))⟩ : S34))
                (case aB => exact (by repeat (first | (with_reducible first | exact HB.out | apply below_alloc | apply pw_below_drewN | apply below_drew1) | exact HB.out)))
                (case aF => exact (fun _ _ => trivial))
                (case aO => exact (by (with_reducible repeat (first | apply Kd.R_alloc | apply Kd.R_drewN | apply Kd.R_drew)); exact HO_6.out))
                (case aS => exact (below_size (by repeat (first | (with_reducible first | exact HB.out | apply below_alloc | apply pw_below_drewN | apply below_drew1) | exact HB.out))))
                (case aL => have := LMc9.out; omega)
                intro v219 w11 ho hb hg hat
                rw [← Ny218.out] at ho
                have n0_ := Aside0.mk (hb)
                have n1_ := Aside0.mk (ho)
                clear HB
                clear HO_6
                have HB := n0_
                have HO220 := n1_
                clear n0_ n1_
                clear ho hb hg hat
                refine hK.out _ _ ⟨((HB.out.cell (World.block_lt_of_cell? w _ hw216_0)).trans hw216_0), ((HB.out.cell (World.block_lt_of_cell? w _ hw216_1)).trans hw216_1), ((HB.out.cell (World.block_lt_of_cell? w _ hw217_0)).trans hw217_0), ((HB.out.cell (World.block_lt_of_cell? w _ hw217_1)).trans hw217_1)⟩ (fun hHeld => ?_)
                clear hK K
                refine norm_ (a' := ?_) ?_ ?_
                rotate_left
                · show Act.put _ (some 44) _ = _
                  simp only [Act.put, List.setIfInBounds_toArray, List.set_cons_zero, List.set_cons_succ, i64_w, i32_w]
                  rfl
                refine pure_ (i := 18) (N := some 6) (v := ?_) (a' := ?_) #[true, true, true, true, true, true, true, true, true, true, true, true, true, true, true, true, true, true, true] rfl rfl (any_of HT_.out (by kernel_rfl)) (fun _ _ _ h => h) (Or.inl ⟨by rfl, ?_⟩) ?_ ?_
                rotate_left
                · intro w'
                  go_simp
                  with_reducible rfl
                rotate_left
                · simp only [Act.put, List.setIfInBounds_toArray, List.set_cons_zero, List.set_cons_succ, i64_w, i32_w]
                  rfl
                refine done_ (done_of HT_.out (by kernel_rfl)) ?_
                try go_wp2
                go_roundg k1
                case measure => have := HK1.out; omega
                case rel => exact ⟨(y218), (wrap64 (x7_1 + 1)), (by first | rfl | (simp; done) | (simp [*]; done)), H', ⟨by have := HK1.out; omega⟩, ⟨by (with_reducible repeat (first | apply Kd.R_alloc | apply Kd.R_drewN | apply Kd.R_drew)); exact HO220.out⟩, ⟨by repeat (first | (with_reducible first | exact HB.out | apply below_alloc | apply pw_below_drewN | apply below_drew1) | exact HB.out)⟩⟩
              · rw [if_neg c9] at H
                exact absurd H (by simp)
            · rw [if_neg c8] at H
              exact absurd H (by simp)
          · rw [if_neg c7] at H
            have c7b0 : decide (x7_1 < 8) = false := decide_eq_false c7
            clear c7
            have H' := Aside0.mk H
            clear H
            go_wp2
            go_meet
            case rel => exact ⟨_, (x6_1), H', ⟨by have := HK1.out; first | omega | exact Nat.le_refl _⟩, ⟨by (with_reducible repeat (first | apply Kd.R_alloc | apply Kd.R_drewN | apply Kd.R_drew)); exact HO_6.out⟩, ⟨by repeat (first | (with_reducible first | exact HB.out | apply below_alloc | apply pw_below_drewN | apply below_drew1) | exact HB.out)⟩⟩
        · rw [if_neg c6] at H
          have c6b0 : decide (x7_1 < (l0.length : Int)) = false := decide_eq_false c6
          clear c6
          (first | rw [c6b0] | (simp only [i64_w, i32_w]; rw [c6b0]) | skip)
          have H' := Aside0.mk H
          clear H
          go_wp2
          go_meet
          case rel => exact ⟨_, (x6_1), H', ⟨by have := HK1.out; first | omega | exact Nat.le_refl _⟩, ⟨by (with_reducible repeat (first | apply Kd.R_alloc | apply Kd.R_drewN | apply Kd.R_drew)); exact HO_6.out⟩, ⟨by repeat (first | (with_reducible first | exact HB.out | apply below_alloc | apply pw_below_drewN | apply below_drew1) | exact HB.out)⟩⟩
  case rest =>
    clear HC4
    try clear c1
    try clear p2
    try clear q2
    try clear hx2
    try clear c5
    try clear c6
    try clear c6b0
    try clear p6
    try clear c7
    try clear c7b0
    try clear c8
    try clear c8b0
    try clear c9
    try clear hx216_0
    try clear hx216_1
    try clear hx217_0
    try clear hx217_1
    try clear p2
    try clear p216
    try clear p217
    try clear q216
    try clear q217
    obtain ⟨kq, x6_3, HA, HJ3, HO_6, HB⟩ := hcut
    cases kq with
    | zero => exact absurd HA.out (by simp [flyleaflaw13_PlaceLow.j1])
    | succ kj3 =>
      have H := HA.out
      clear HA
      simp only [flyleaflaw13_PlaceLow.j1] at H
      by_cases c12 : x6_3.length < 8796093022208
      · rw [if_pos c12] at H
        have LMc12 := Aside0.mk c12
        clear c12
        obtain ⟨y221, hy221⟩ : ∃ y_ : List (S34), y_ = (x6_3 ++ [(⟨wrap64 (1 + (Go.bits .and .i64 a1 255)), 0⟩ : S34)]) := ⟨_, rfl⟩
        replace H : ((place_All.f kj3 y221 0 65536).bind fun bt224 => (if bt224.2 = 0 then (flyleaflaw13_PlaceLow.j2 kj3 t215 y221 bt224.1 ((bt224.1.length : Int) != (y221.length : Int))) else (flyleaflaw13_PlaceLow.j2 kj3 t215 y221 bt224.1 true))) = some r := by first | (rw [hy221]; with_reducible exact H) | (have H2_ := (Option.bind_some _ _).symm.trans H; rw [hy221]; with_reducible exact H2_) | (have H2_ := (Option.bind_some _ _).symm.trans H; with_reducible exact H2_) | with_reducible exact H | (rw [hy221]; exact H) | exact H
        have Ny221 := Aside0.mk hy221
        clear hy221
        replace H := Option.bind_eq_some_iff.mp H
        obtain ⟨⟨t224, t225⟩, A130, H⟩ := H
        replace H : (if t225 = 0 then (flyleaflaw13_PlaceLow.j2 kj3 t215 y221 t224 ((t224.length : Int) != (y221.length : Int))) else (flyleaflaw13_PlaceLow.j2 kj3 t215 y221 t224 true)) = some r := H
        have A13 := Aside0.mk A130
        clear A130
        have HC14 := Aside0.mk H
        clear H
        go_upto_region 9 with (first | ((with_reducible refine gate_builtin (b := .append) (xs := #[.tmp 45, .tmp 50]) rfl ?_); (try (refine gate_guard (by rfl) ?_; dsimp only)); at_builtin; refine Kd.R_append k34 (w0 := w) w.heap.size rfl (.tmp 45) (.tmp 50) 22 34 (.agg #[(.int .i64 0), (.int .i64 0)]) 16 rfl Try.underlying22 info34 rfl (by decide) (by omega) u6 x6_3 (⟨wrap64 (1 + (Go.bits .and .i64 a1 255)), 0⟩ : S34) [.int .i64 (wrap64 (1 + (Go.bits .and .i64 a1 255))), .int .i64 0] (fun _ => True) (fun _ => False) rfl rfl ?aP (fun _ hk => hk.elim) ?aF ?aO ?aB ?aS ?aL ?_; (case aP => exact k34_mkM _ _ _ (⟨wrap64 (1 + (Go.bits .and .i64 a1 255)), 0⟩ : S34)); (case aB => exact (by repeat (first | (with_reducible first | exact HB.out | apply below_alloc | apply pw_below_drewN | apply below_drew1) | exact HB.out))); (case aF => exact (fun _ _ => trivial)); (case aO => exact (by (with_reducible repeat (first | apply Kd.R_alloc | apply Kd.R_drewN | apply Kd.R_drew)); exact HO_6.out)); (case aS => exact (below_size (by repeat (first | (with_reducible first | exact HB.out | apply below_alloc | apply pw_below_drewN | apply below_drew1) | exact HB.out)))); (case aL => have := LMc12.out; omega); intro v222 w15 ho hb hg hat; rw [← Ny221.out] at ho; have n0_ := Aside0.mk (hb); have n1_ := Aside0.mk (ho); clear HB; clear HO_6; have HB := n0_; have HO223 := n1_; clear n0_ n1_; clear ho hb hg hat; obtain ⟨Ao16, co16, eo16⟩ := Kd.R_slice HO223.out; subst eo16) | ((with_reducible refine gate_callee (f := 19) rfl ?_); refine goesL_ (some 54) rfl rfl Try.func19 (by kernel_rfl) rfl #[.slice Ao16 y221.length co16, .int .i64 0, .int .i64 65536] rfl (by (try simp only [List.map_toArray, List.map_cons, List.map_nil]); first | done | rfl | (simp only [List.length_drop, List.length_take]; rfl)) ?_; (with_reducible refine (place_All.calls kj3 _ _ y221 0 65536 t224 t225 _ ?side1 ?side2 A13.out).mono ?_); (case side1 => repeat (first | exact (Kd.R_reads' HO223.out).2.2 | (with_reducible refine Kd.C_alloc ?_ _) | (with_reducible refine Kd.C_drewN ?_ _) | (with_reducible refine Kd.C_drew ?_))); (case side2 => exact (Kd.R_reads' HO223.out).2.1); rintro e w17 ⟨v226, rfl, ho0, hb⟩; refine ⟨_, rfl, ?_⟩; have n0_ := Aside0.mk (Kd.R_below (by (with_reducible repeat (first | apply Kd.R_alloc | apply Kd.R_drewN | apply Kd.R_drew)); exact HO223.out) hb); have n1_ := Aside0.mk (Kd.R_lower ho0 (below_size (by repeat (first | (with_reducible first | exact HB.out | apply below_alloc | apply pw_below_drewN | apply below_drew1) | exact HB.out)))); have n2_ := Aside0.mk (below_step (by repeat (first | (with_reducible first | exact HB.out | apply below_alloc | apply pw_below_drewN | apply below_drew1) | exact HB.out)) hb); clear HO223; clear HB; have HO223 := n0_; have HO227 := n1_; have HB := n2_; clear n0_ n1_ n2_; (try clear hb); (try clear hb2); (try clear hk); (try clear hi); (try clear ho0)))
        (try simp only [Act.put, List.setIfInBounds_toArray, List.set_cons_zero, List.set_cons_succ])
        go_cut [65] (fun v65 wc => ∃ (kq : Nat) (x65_13 : Bool), v65 = .bool x65_13 ∧ Aside0 (flyleaflaw13_PlaceLow.j2 kq t215 y221 t224 x65_13 = some r) ∧ Aside0 (kq ≤ kj3) ∧ Aside0 (Kd.R k34 34 wc w.heap.size (fun _ => True) (.slice Ao16 y221.length co16) y221) ∧ Aside0 (Kd.R (Kd.int .i64) 3 wc w.heap.size (fun _ => True) v226 t224) ∧ Aside0 (Below w.heap.size w wc))
        case first =>
          have H := HC14.out
          clear HC14
          by_cases c18 : t225 = 0
          · rw [if_pos c18] at H
            have c18b0 : (t225 == 0) = true := beq_iff_eq.mpr c18
            have c18b1 : (t225 != 0) = false := bne_eq_false_iff_eq.mpr c18
            clear c18
            (first | rw [c18b0] | (simp only [i64_w, i32_w]; rw [c18b0]) | skip)
            have H' := Aside0.mk H
            clear H
            obtain ⟨Ao19, co19, eo19⟩ := Kd.R_slice HO227.out
            subst eo19
            go_wp2
            go_meet
            case rel => exact ⟨_, (((t224.length : Int) != (y221.length : Int))), (by first | rfl | (simp; done) | (simp [*]; done)), H', ⟨by have := HJ3.out; first | omega | exact Nat.le_refl _⟩, ⟨by (with_reducible repeat (first | apply Kd.R_alloc | apply Kd.R_drewN | apply Kd.R_drew)); exact HO223.out⟩, ⟨by (with_reducible repeat (first | apply Kd.R_alloc | apply Kd.R_drewN | apply Kd.R_drew)); exact HO227.out⟩, ⟨by repeat (first | (with_reducible first | exact HB.out | apply below_alloc | apply pw_below_drewN | apply below_drew1) | exact HB.out)⟩⟩
          · rw [if_neg c18] at H
            have c18b0 : (t225 == 0) = false := beq_eq_false_iff_ne.mpr c18
            have c18b1 : (t225 != 0) = true := bne_iff_ne.mpr c18
            (first | rw [c18b0] | (simp only [i64_w, i32_w]; rw [c18b0]) | skip)
            have H' := Aside0.mk H
            clear H
            go_wp2
            go_meet
            case rel => exact ⟨_, (true), (by first | rfl | (simp; done) | (simp [*]; done)), H', ⟨by have := HJ3.out; first | omega | exact Nat.le_refl _⟩, ⟨by (with_reducible repeat (first | apply Kd.R_alloc | apply Kd.R_drewN | apply Kd.R_drew)); exact HO223.out⟩, ⟨by (with_reducible repeat (first | apply Kd.R_alloc | apply Kd.R_drewN | apply Kd.R_drew)); exact HO227.out⟩, ⟨by repeat (first | (with_reducible first | exact HB.out | apply below_alloc | apply pw_below_drewN | apply below_drew1) | exact HB.out)⟩⟩
        case rest =>
          clear HC14
          try clear c1
          try clear p2
          try clear q2
          try clear hx2
          try clear c5
          try clear c6
          try clear c6b0
          try clear p6
          try clear c7
          try clear c7b0
          try clear c8
          try clear c8b0
          try clear c9
          try clear c12
          try clear c17
          try clear c18
          try clear c18b0
          try clear c18b1
          try clear c19
          try clear hx216_0
          try clear hx216_1
          try clear hx217_0
          try clear hx217_1
          try clear p2
          try clear p216
          try clear p217
          try clear p6
          try clear q2
          try clear q216
          try clear q217
          obtain ⟨kq, x65_13, rfl, HA, HJ13, HO_6, HO_8, HB⟩ := hcut
          cases kq with
          | zero => exact absurd HA.out (by simp [flyleaflaw13_PlaceLow.j2])
          | succ kj13 =>
            have H := HA.out
            clear HA
            simp only [flyleaflaw13_PlaceLow.j2] at H
            by_cases c20 : x65_13 = true
            · subst c20
              have H1 : (some false) = some r := by rw [if_pos rfl] at H; exact H
              clear H
              have H := H1
              clear H1
              obtain rfl := Option.some.inj H
              go_wp2
              go_ret
              exact ⟨by first | rfl | (simp [errW_none, errW_some] <;> rfl) | (simp [*, errW_none, errW_some] <;> rfl), by repeat (first | (with_reducible first | exact HB.out | apply below_alloc | apply pw_below_drewN | apply below_drew1) | exact HB.out)⟩
            · replace c20 := Bool.eq_false_iff.mpr c20
              subst c20
              have H1 : (if 0 ≤ (wrap64 ((y221.length : Int) - 1)) then (if (wrap64 ((y221.length : Int) - 1)) < (y221.length : Int) then (flyleaflaw13_PlaceLow.l1 kj13 t215 y221 t224 (wrap64 ((y221.length : Int) - 1)) (wrap64 ((wrap64 (Int.tdiv (wrap64 (((rd_T34 y221 (wrap64 ((y221.length : Int) - 1))).f0) + 63)) 64)) * 64)) 0) else (none)) else (none)) = some r := by rw [if_neg (show ¬ (false = true) by decide)] at H; exact H
              clear H
              have H := H1
              clear H1
              obtain ⟨ji21, hji21⟩ : ∃ j_ : Int, (wrap64 ((y221.length : Int) - 1)) = j_ := ⟨_, rfl⟩
              replace H : (if 0 ≤ (ji21) then (if (ji21) < (y221.length : Int) then (flyleaflaw13_PlaceLow.l1 kj13 t215 y221 t224 ji21 (wrap64 ((wrap64 (Int.tdiv (wrap64 (((rd_T34 y221 (ji21)).f0) + 63)) 64)) * 64)) 0) else (none)) else (none)) = some r := by first | (rw [hji21] at H; exact H) | (simp only [hji21] at H ⊢; exact H)
              have hji21w : (IntKind.i64.wrap ((y221.length : Int) - 1)) = ji21 := (i64_w _).trans hji21
              by_cases c22 : 0 ≤ (ji21)
              · rw [if_pos c22] at H
                have c22b0 : decide (0 ≤ (ji21)) = true := decide_eq_true c22
                clear c22
                by_cases c23 : (ji21) < (y221.length : Int)
                · rw [if_pos c23] at H
                  have c23b0 : decide ((ji21) < (y221.length : Int)) = true := decide_eq_true c23
                  clear c23
                  have H' := Aside0.mk H
                  clear H
                  have p228 : 0 ≤ ((ji21) : Int) := of_decide_eq_true (by first | (with_reducible assumption) | assumption)
                  have q228 : (ji21) < (y221.length : Int) := of_decide_eq_true (by first | (with_reducible assumption) | assumption)
                  obtain ⟨ad228, e228, hx228_0, hx228_1⟩ := at_T34 (Kd.R_reads' HO_6.out).2.2 (ji21) p228 q228
                  cases e228
                  replace p228 := eq_true p228
                  replace q228 := eq_true q228
                  go_wp2
                  go_loopg [12] kj13 (fun kq v12 w' => ∃ (x12_3 : Int), v12 = .int .i64 x12_3 ∧ Aside0 (flyleaflaw13_PlaceLow.l1 kq t215 y221 t224 ji21 (wrap64 ((wrap64 (Int.tdiv (wrap64 (((rd_T34 y221 (ji21)).f0) + 63)) 64)) * 64)) x12_3 = some r) ∧ Aside0 (kq ≤ kj13) ∧ Aside0 (Kd.R k34 34 w' w.heap.size (fun _ => True) (.slice (some ad228) y221.length co16) y221) ∧ Aside0 (Kd.R (Kd.int .i64) 3 w' w.heap.size (fun _ => True) v226 t224) ∧ Aside0 (Below w.heap.size w w'))
                  case atStart => exact ⟨(0), (by first | rfl | (simp; done) | (simp [*]; done)), H', ⟨Nat.le_refl _⟩, ⟨by (with_reducible repeat (first | apply Kd.R_alloc | apply Kd.R_drewN | apply Kd.R_drew)); exact HO_6.out⟩, ⟨by (with_reducible repeat (first | apply Kd.R_alloc | apply Kd.R_drewN | apply Kd.R_drew)); exact HO_8.out⟩, ⟨by repeat (first | (with_reducible first | exact HB.out | apply below_alloc | apply pw_below_drewN | apply below_drew1) | exact HB.out)⟩⟩
                  case round =>
                    clear H'
                    try clear c1
                    try clear c2
                    try clear p2
                    try clear q2
                    try clear hx2
                    try clear c5
                    try clear c6
                    try clear c6b0
                    try clear p6
                    try clear c7
                    try clear c7b0
                    try clear c8
                    try clear c8b0
                    try clear c9
                    try clear c12
                    try clear c17
                    try clear c18
                    try clear c18b0
                    try clear c18b1
                    try clear c19
                    try clear c20
                    try clear p21
                    try clear q21
                    try clear hx21
                    try clear c22
                    try clear c22b0
                    try clear p22
                    try clear q22
                    try clear hx22
                    try clear c23
                    try clear c23b0
                    try clear hx216_0
                    try clear hx216_1
                    try clear hx217_0
                    try clear hx217_1
                    try clear hx228_0
                    try clear hx228_1
                    try clear p2
                    try clear p216
                    try clear p217
                    try clear p228
                    try clear p6
                    try clear q2
                    try clear q216
                    try clear q217
                    try clear q228
                    obtain ⟨x12_3, rfl, HA, HK3, HO_6, HO_8, HB⟩ := hrel
                    cases gk with
                    | zero => exact absurd HA.out (by simp [flyleaflaw13_PlaceLow.l1])
                    | succ k3 =>
                      have H := HA.out
                      clear HA
                      simp only [flyleaflaw13_PlaceLow.l1] at H
                      by_cases c24 : 0 ≤ ji21
                      · rw [if_pos c24] at H
                        have c24b0 : decide (0 ≤ ji21) = true := decide_eq_true c24
                        clear c24
                        by_cases c25 : ji21 < (t224.length : Int)
                        · rw [if_pos c25] at H
                          have c25b0 : decide (ji21 < (t224.length : Int)) = true := decide_eq_true c25
                          clear c25
                          by_cases c26 : x12_3 < (rd t224 ji21)
                          · rw [if_pos c26] at H
                            have c26b0 : decide (x12_3 < (rd t224 ji21)) = true := decide_eq_true c26
                            clear c26
                            have H' := Aside0.mk H
                            clear H
                            obtain ⟨Ao27, co27, eo27⟩ := Kd.R_slice HO_8.out
                            subst eo27
                            have p229 : 0 ≤ (ji21 : Int) := of_decide_eq_true (by first | (with_reducible assumption) | assumption)
                            have q229 : ji21 < (t224.length : Int) := of_decide_eq_true (by first | (with_reducible assumption) | assumption)
                            obtain ⟨ad229, e229, hx229_0⟩ := Kd.at_int (Kd.R_reads' HO_8.out).2.2 ji21 p229 q229
                            cases e229
                            replace p229 := eq_true p229
                            replace q229 := eq_true q229
                            go_wp2
                            go_loopg [13, 14] k3 (fun kq v13 v14 w' => ∃ (x13_4 : Bool) (x14_4 : Int), v13 = .bool x13_4 ∧ v14 = .int .i64 x14_4 ∧ Aside0 (flyleaflaw13_PlaceLow.l2 kq t215 y221 t224 ji21 (wrap64 ((wrap64 (Int.tdiv (wrap64 (((rd_T34 y221 (ji21)).f0) + 63)) 64)) * 64)) x12_3 x13_4 x14_4 = some r) ∧ Aside0 (kq ≤ k3) ∧ Aside0 (Kd.R k34 34 w' w.heap.size (fun _ => True) (.slice (some ad228) y221.length co16) y221) ∧ Aside0 (Kd.R (Kd.int .i64) 3 w' w.heap.size (fun _ => True) (.slice (some ad229) t224.length co27) t224) ∧ Aside0 (Below w.heap.size w w'))
                            case atStart => exact ⟨(true), (0), (by first | rfl | (simp; done) | (simp [*]; done)), (by first | rfl | (simp; done) | (simp [*]; done)), H', ⟨Nat.le_refl _⟩, ⟨by (with_reducible repeat (first | apply Kd.R_alloc | apply Kd.R_drewN | apply Kd.R_drew)); exact HO_6.out⟩, ⟨by (with_reducible repeat (first | apply Kd.R_alloc | apply Kd.R_drewN | apply Kd.R_drew)); exact HO_8.out⟩, ⟨by repeat (first | (with_reducible first | exact HB.out | apply below_alloc | apply pw_below_drewN | apply below_drew1) | exact HB.out)⟩⟩
                            case round =>
                              clear H'
                              try clear c1
                              try clear c2
                              try clear p2
                              try clear q2
                              try clear hx2
                              try clear c5
                              try clear c6
                              try clear c6b0
                              try clear p6
                              try clear c7
                              try clear c7b0
                              try clear c8
                              try clear c8b0
                              try clear c9
                              try clear c12
                              try clear c17
                              try clear c18
                              try clear c18b0
                              try clear c18b1
                              try clear c19
                              try clear c20
                              try clear p21
                              try clear q21
                              try clear hx21
                              try clear c22
                              try clear c22b0
                              try clear p22
                              try clear q22
                              try clear hx22
                              try clear c23
                              try clear c23b0
                              try clear c24
                              try clear c24b0
                              try clear c25
                              try clear c25b0
                              try clear c26
                              try clear c26b0
                              try clear hx216_0
                              try clear hx216_1
                              try clear hx217_0
                              try clear hx217_1
                              try clear hx228_0
                              try clear hx228_1
                              try clear hx229_0
                              try clear p2
                              try clear p21
                              try clear p216
                              try clear p217
                              try clear p22
                              try clear p228
                              try clear p229
                              try clear p6
                              try clear q2
                              try clear q21
                              try clear q216
                              try clear q217
                              try clear q22
                              try clear q228
                              try clear q229
                              obtain ⟨x13_4, x14_4, rfl, rfl, HA, HK4, HO_6, HO_8, HB⟩ := hrel
                              cases gk with
                              | zero => exact absurd HA.out (by simp [flyleaflaw13_PlaceLow.l2])
                              | succ k4 =>
                                have H := HA.out
                                clear HA
                                simp only [flyleaflaw13_PlaceLow.l2] at H
                                by_cases c28 : x14_4 < ji21
                                · rw [if_pos c28] at H
                                  have c28b0 : decide (x14_4 < ji21) = true := decide_eq_true c28
                                  clear c28
                                  by_cases c29 : 0 ≤ x14_4
                                  · rw [if_pos c29] at H
                                    have c29b0 : decide (0 ≤ x14_4) = true := decide_eq_true c29
                                    clear c29
                                    by_cases c30 : x14_4 < (y221.length : Int)
                                    · rw [if_pos c30] at H
                                      have c30b0 : decide (x14_4 < (y221.length : Int)) = true := decide_eq_true c30
                                      clear c30
                                      by_cases c31 : x13_4 = true
                                      · subst c31
                                        have H1 : (if x14_4 < (t224.length : Int) then (if x12_3 ≥ (wrap64 ((rd t224 x14_4) + (wrap64 ((wrap64 (Int.tdiv (wrap64 (((rd_T34 y221 x14_4).f0) + 63)) 64)) * 64)))) then (flyleaflaw13_PlaceLow.l2 k4 t215 y221 t224 ji21 (wrap64 ((wrap64 (Int.tdiv (wrap64 (((rd_T34 y221 (ji21)).f0) + 63)) 64)) * 64)) x12_3 true (wrap64 (x14_4 + 1))) else (flyleaflaw13_PlaceLow.l2 k4 t215 y221 t224 ji21 (wrap64 ((wrap64 (Int.tdiv (wrap64 (((rd_T34 y221 (ji21)).f0) + 63)) 64)) * 64)) x12_3 (decide ((rd t224 x14_4) ≥ (wrap64 (x12_3 + (wrap64 ((wrap64 (Int.tdiv (wrap64 (((rd_T34 y221 (ji21)).f0) + 63)) 64)) * 64)))))) (wrap64 (x14_4 + 1)))) else (none)) = some r := by rw [if_pos rfl] at H; exact H
                                        clear H
                                        have H := H1
                                        clear H1
                                        by_cases c32 : x14_4 < (t224.length : Int)
                                        · rw [if_pos c32] at H
                                          have c32b0 : decide (x14_4 < (t224.length : Int)) = true := decide_eq_true c32
                                          clear c32
                                          by_cases c33 : x12_3 ≥ (wrap64 ((rd t224 x14_4) + (wrap64 ((wrap64 (Int.tdiv (wrap64 (((rd_T34 y221 x14_4).f0) + 63)) 64)) * 64))))
                                          · rw [if_pos c33] at H
                                            have c33b0 : decide ((wrap64 ((rd t224 x14_4) + (wrap64 ((wrap64 (Int.tdiv (wrap64 (((rd_T34 y221 x14_4).f0) + 63)) 64)) * 64)))) ≤ x12_3) = true := decide_eq_true c33
                                            clear c33
                                            have H' := Aside0.mk H
                                            clear H
                                            have p230 : 0 ≤ (x14_4 : Int) := of_decide_eq_true (by first | (with_reducible assumption) | assumption)
                                            have q230 : x14_4 < (y221.length : Int) := of_decide_eq_true (by first | (with_reducible assumption) | assumption)
                                            obtain ⟨ad230, e230, hx230_0, hx230_1⟩ := at_T34 (Kd.R_reads' HO_6.out).2.2 x14_4 p230 q230
                                            obtain rfl : ad228 = ad230 := (by injection e230)
                                            replace p230 := eq_true p230
                                            replace q230 := eq_true q230
                                            have p231 : 0 ≤ (x14_4 : Int) := of_decide_eq_true (by first | (with_reducible assumption) | assumption)
                                            have q231 : x14_4 < (t224.length : Int) := of_decide_eq_true (by first | (with_reducible assumption) | assumption)
                                            obtain ⟨ad231, e231, hx231_0⟩ := Kd.at_int (Kd.R_reads' HO_8.out).2.2 x14_4 p231 q231
                                            obtain rfl : ad229 = ad231 := (by injection e231)
                                            replace p231 := eq_true p231
                                            replace q231 := eq_true q231
                                            go_wp2
                                            go_roundg k4
                                            case measure => have := HJ3.out; have := HJ13.out; have := HK3.out; have := HK4.out; omega
                                            case rel => exact ⟨(true), (wrap64 (x14_4 + 1)), (by first | rfl | (simp; done) | (simp [*]; done)), (by first | rfl | (simp; done) | (simp [*]; done)), H', ⟨by have := HJ3.out; have := HJ13.out; have := HK3.out; have := HK4.out; omega⟩, ⟨by (with_reducible repeat (first | apply Kd.R_alloc | apply Kd.R_drewN | apply Kd.R_drew)); exact HO_6.out⟩, ⟨by (with_reducible repeat (first | apply Kd.R_alloc | apply Kd.R_drewN | apply Kd.R_drew)); exact HO_8.out⟩, ⟨by repeat (first | (with_reducible first | exact HB.out | apply below_alloc | apply pw_below_drewN | apply below_drew1) | exact HB.out)⟩⟩
                                          · rw [if_neg c33] at H
                                            have c33b0 : decide ((wrap64 ((rd t224 x14_4) + (wrap64 ((wrap64 (Int.tdiv (wrap64 (((rd_T34 y221 x14_4).f0) + 63)) 64)) * 64)))) ≤ x12_3) = false := decide_eq_false c33
                                            clear c33
                                            have H' := Aside0.mk H
                                            clear H
                                            have p230 : 0 ≤ (x14_4 : Int) := of_decide_eq_true (by first | (with_reducible assumption) | assumption)
                                            have q230 : x14_4 < (y221.length : Int) := of_decide_eq_true (by first | (with_reducible assumption) | assumption)
                                            obtain ⟨ad230, e230, hx230_0, hx230_1⟩ := at_T34 (Kd.R_reads' HO_6.out).2.2 x14_4 p230 q230
                                            obtain rfl : ad228 = ad230 := (by injection e230)
                                            replace p230 := eq_true p230
                                            replace q230 := eq_true q230
                                            have p231 : 0 ≤ (x14_4 : Int) := of_decide_eq_true (by first | (with_reducible assumption) | assumption)
                                            have q231 : x14_4 < (t224.length : Int) := of_decide_eq_true (by first | (with_reducible assumption) | assumption)
                                            obtain ⟨ad231, e231, hx231_0⟩ := Kd.at_int (Kd.R_reads' HO_8.out).2.2 x14_4 p231 q231
                                            obtain rfl : ad229 = ad231 := (by injection e231)
                                            replace p231 := eq_true p231
                                            replace q231 := eq_true q231
                                            have p232 : 0 ≤ (x14_4 : Int) := of_decide_eq_true (by first | (with_reducible assumption) | assumption)
                                            have q232 : x14_4 < (t224.length : Int) := of_decide_eq_true (by first | (with_reducible assumption) | assumption)
                                            obtain ⟨ad232, e232, hx232_0⟩ := Kd.at_int (Kd.R_reads' HO_8.out).2.2 x14_4 p232 q232
                                            obtain rfl : ad229 = ad232 := (by injection e232)
                                            replace p232 := eq_true p232
                                            replace q232 := eq_true q232
                                            go_wp2
                                            go_roundg k4
                                            case measure => have := HJ3.out; have := HJ13.out; have := HK3.out; have := HK4.out; omega
                                            case rel => exact ⟨(decide ((rd t224 x14_4) ≥ (wrap64 (x12_3 + (wrap64 ((wrap64 (Int.tdiv (wrap64 (((rd_T34 y221 (ji21)).f0) + 63)) 64)) * 64)))))), (wrap64 (x14_4 + 1)), (by first | rfl | (simp; done) | (simp only [← hji21] <;> (first | rfl | simp)) | (simp [*]; done)), (by first | rfl | (simp; done) | (simp [*]; done)), H', ⟨by have := HJ3.out; have := HJ13.out; have := HK3.out; have := HK4.out; omega⟩, ⟨by (with_reducible repeat (first | apply Kd.R_alloc | apply Kd.R_drewN | apply Kd.R_drew)); exact HO_6.out⟩, ⟨by (with_reducible repeat (first | apply Kd.R_alloc | apply Kd.R_drewN | apply Kd.R_drew)); exact HO_8.out⟩, ⟨by repeat (first | (with_reducible first | exact HB.out | apply below_alloc | apply pw_below_drewN | apply below_drew1) | exact HB.out)⟩⟩
                                        · rw [if_neg c32] at H
                                          exact absurd H (by simp)
                                      · replace c31 := Bool.eq_false_iff.mpr c31
                                        subst c31
                                        have H1 : (flyleaflaw13_PlaceLow.l2 k4 t215 y221 t224 ji21 (wrap64 ((wrap64 (Int.tdiv (wrap64 (((rd_T34 y221 (ji21)).f0) + 63)) 64)) * 64)) x12_3 false (wrap64 (x14_4 + 1))) = some r := by rw [if_neg (show ¬ (false = true) by decide)] at H; exact H
                                        clear H
                                        have H := H1
                                        clear H1
                                        have H' := Aside0.mk H
                                        clear H
                                        have p230 : 0 ≤ (x14_4 : Int) := of_decide_eq_true (by first | (with_reducible assumption) | assumption)
                                        have q230 : x14_4 < (y221.length : Int) := of_decide_eq_true (by first | (with_reducible assumption) | assumption)
                                        obtain ⟨ad230, e230, hx230_0, hx230_1⟩ := at_T34 (Kd.R_reads' HO_6.out).2.2 x14_4 p230 q230
                                        obtain rfl : ad228 = ad230 := (by injection e230)
                                        replace p230 := eq_true p230
                                        replace q230 := eq_true q230
                                        go_wp2
                                        go_roundg k4
                                        case measure => have := HJ3.out; have := HJ13.out; have := HK3.out; have := HK4.out; omega
                                        case rel => exact ⟨(false), (wrap64 (x14_4 + 1)), (by first | rfl | (simp; done) | (simp [*]; done)), (by first | rfl | (simp; done) | (simp [*]; done)), H', ⟨by have := HJ3.out; have := HJ13.out; have := HK3.out; have := HK4.out; omega⟩, ⟨by (with_reducible repeat (first | apply Kd.R_alloc | apply Kd.R_drewN | apply Kd.R_drew)); exact HO_6.out⟩, ⟨by (with_reducible repeat (first | apply Kd.R_alloc | apply Kd.R_drewN | apply Kd.R_drew)); exact HO_8.out⟩, ⟨by repeat (first | (with_reducible first | exact HB.out | apply below_alloc | apply pw_below_drewN | apply below_drew1) | exact HB.out)⟩⟩
                                    · rw [if_neg c30] at H
                                      exact absurd H (by simp)
                                  · rw [if_neg c29] at H
                                    exact absurd H (by simp)
                                · rw [if_neg c28] at H
                                  have c28b0 : decide (x14_4 < ji21) = false := decide_eq_false c28
                                  clear c28
                                  by_cases c34 : x13_4 = true
                                  · subst c34
                                    have H1 : (some false) = some r := by rw [if_pos rfl] at H; exact H
                                    clear H
                                    have H := H1
                                    clear H1
                                    obtain rfl := Option.some.inj H
                                    go_wp2
                                    go_ret
                                    exact ⟨by first | rfl | (simp [errW_none, errW_some] <;> rfl) | (simp only [← hji21]; first | rfl | (simp [errW_none, errW_some] <;> rfl)) | (simp [*, errW_none, errW_some] <;> rfl), by repeat (first | (with_reducible first | exact HB.out | apply below_alloc | apply pw_below_drewN | apply below_drew1) | exact HB.out)⟩
                                  · replace c34 := Bool.eq_false_iff.mpr c34
                                    subst c34
                                    have H1 : (flyleaflaw13_PlaceLow.l1 k4 t215 y221 t224 ji21 (wrap64 ((wrap64 (Int.tdiv (wrap64 (((rd_T34 y221 (ji21)).f0) + 63)) 64)) * 64)) (wrap64 (x12_3 + 64))) = some r := by rw [if_neg (show ¬ (false = true) by decide)] at H; exact H
                                    clear H
                                    have H := H1
                                    clear H1
                                    have H' := Aside0.mk H
                                    clear H
                                    go_wp2
                                    go_roundg k4
                                    case measure => have := HJ3.out; have := HJ13.out; have := HK3.out; have := HK4.out; omega
                                    case rel => exact ⟨(wrap64 (x12_3 + 64)), (by first | rfl | (simp; done) | (simp [*]; done)), H', ⟨by have := HJ3.out; have := HJ13.out; have := HK3.out; have := HK4.out; omega⟩, ⟨by (with_reducible repeat (first | apply Kd.R_alloc | apply Kd.R_drewN | apply Kd.R_drew)); exact HO_6.out⟩, ⟨by (with_reducible repeat (first | apply Kd.R_alloc | apply Kd.R_drewN | apply Kd.R_drew)); exact HO_8.out⟩, ⟨by repeat (first | (with_reducible first | exact HB.out | apply below_alloc | apply pw_below_drewN | apply below_drew1) | exact HB.out)⟩⟩
                          · rw [if_neg c26] at H
                            have c26b0 : decide (x12_3 < (rd t224 ji21)) = false := decide_eq_false c26
                            clear c26
                            obtain rfl := Option.some.inj H
                            obtain ⟨Ao35, co35, eo35⟩ := Kd.R_slice HO_8.out
                            subst eo35
                            have p229 : 0 ≤ (ji21 : Int) := of_decide_eq_true (by first | (with_reducible assumption) | assumption)
                            have q229 : ji21 < (t224.length : Int) := of_decide_eq_true (by first | (with_reducible assumption) | assumption)
                            obtain ⟨ad229, e229, hx229_0⟩ := Kd.at_int (Kd.R_reads' HO_8.out).2.2 ji21 p229 q229
                            cases e229
                            replace p229 := eq_true p229
                            replace q229 := eq_true q229
                            go_wp2
                            go_ret
                            exact ⟨by first | rfl | (simp [errW_none, errW_some] <;> rfl) | (simp only [← hji21]; first | rfl | (simp [errW_none, errW_some] <;> rfl)) | (simp [*, errW_none, errW_some] <;> rfl), by repeat (first | (with_reducible first | exact HB.out | apply below_alloc | apply pw_below_drewN | apply below_drew1) | exact HB.out)⟩
                        · rw [if_neg c25] at H
                          exact absurd H (by simp)
                      · rw [if_neg c24] at H
                        exact absurd H (by simp)
                · rw [if_neg c23] at H
                  exact absurd H (by simp)
              · rw [if_neg c22] at H
                exact absurd H (by simp)
      · rw [if_neg c12] at H
        exact absurd H (by simp)

end Go.Proofs.Ytafmeagfockdfaa.Pl
