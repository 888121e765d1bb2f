-- Written by prn.py, a program of this session over the kit's printer. Not trusted: Lean checks it.
import Derived.Test.YtafmeagfockdfaaRg0
import Derived.Test.YtafmeagfockdfaaRg1
import Derived.Test.YtafmeagfockdfaaRg2
import Derived.Test.YtafmeagfockdfaaRg4
import Derived.Test.YtafmeagfockdfaaRg5
import Derived.Test.YtafmeagfockdfaaRg7
import Derived.Test.YtafmeagfockdfaaRg9
import Derived.Test.YtafmeagfockdfaaRg11
import Derived.Test.YtafmeagfockdfaaRg12
import Derived.Test.YtafmeagfockdfaaRg14
import Derived.Test.YtafmeagfockdfaaRg16
import Derived.Test.YtafmeagfockdfaaRg17d
import Derived.Test.YtafmeagfockdfaaSq
namespace Go.Proofs.Ytafmeagfockdfaa.Rg
open Go.Proofs.Ytafmeagfockdfaa.Sq
open Go.RowKit Go.Proofs.YtafmeagfockdfaaW.PrintWords Go.Proofs.YtafmeagfockdfaaW.PrintLast Go.Proofs.YtafmeagfockdfaaW.PrintMore
attribute [local go_sem] max2_int min2_int max_two min_two max_three min_three max_four min_four   -- for this text's walks alone
set_option linter.unusedVariables false
set_option linter.unusedSimpArgs false

attribute [local go_sem high] eqA41 eqA77
def flyleaflaw15_RegionAsks.T22 : Bool × List (List Nat × List Nat) := (true, [([], []), ([0], [0]), ([1], [1]), ([1], [1]), ([2, 3, 1], [1, 2, 3]), ([1, 4], [1, 4]), ([5, 1], [5]), ([6], [6]), ([6], [6]), ([7, 8, 6], [6, 7, 8]), ([6, 9], [6, 9]), ([10, 6], [10]), ([11], [11]), ([11], [11]), ([12, 13, 11], [11, 12, 13]), ([11, 14], [11, 14]), ([15, 11], [15]), ([16], [16]), ([16], [16]), ([17, 18, 16], [16, 17, 18]), ([16, 19], [16, 19]), ([20, 16], [20]), ([21], [21]), ([21], [21]), ([22, 23, 21], [21, 22, 23]), ([21, 24], [21, 24]), ([25, 21], [25]), ([26], [26]), ([26], [26]), ([27, 28, 26], [26, 27, 28]), ([26, 29], [26, 29]), ([30, 26], [30]), ([31], [31]), ([31], [31]), ([33, 31], [31, 33]), ([31], [31]), ([35, 31], [31, 35]), ([32, 34, 36, 31, 31], [31, 32, 34, 36]), ([31], [31]), ([31], [31]), ([39, 31], [31, 39]), ([31], [31]), ([41, 31], [31, 41]), ([38, 40, 42, 37, 31], [31, 38, 40, 42]), ([37, 43, 31], [31, 37, 43]), ([31, 44], [31, 44]), ([45, 43], [45]), ([46], [46]), ([47, 46, 46], [46, 47]), ([46], [46]), ([48, 49, 46], [46, 48, 49]), ([46, 50], [46, 50]), ([51, 48, 0, 1, 2, 3, 4, 5, 6, 7, 8, 9, 10, 11, 12, 13, 14, 15, 16, 17, 18, 19, 20, 21, 22, 23, 24, 25, 26, 27, 28, 29, 30, 31, 32, 33, 34, 35, 36, 37, 38, 39, 40, 41, 42, 43, 44, 45, 46, 47, 48, 49, 50, 51], [51])])
def flyleaflaw15_RegionAsks.B22 : List Nat := [0, 1, 3, 3, 15, 31, 63, 127, 127, 511, 1023, 2047, 4095, 4095, 16383, 32767, 65535, 131071, 131071, 524287, 1048575, 2097151, 4194303, 4194303, 16777215, 33554431, 67108863, 134217727, 134217727, 536870911, 1073741823, 2147483647, 4294967295, 4294967295, 12884901887, 4294967295, 38654705663, 137438953471, 4294967295, 4294967295, 554050781183, 4294967295, 2203318222847, 8796093022207, 17592186044415, 35184372088831, 70368744177663, 140737488355327, 281474976710655, 140737488355327, 1125899906842623, 2251799813685247, 4503599627370495]
theorem flyleaflaw15_RegionAsks.tab22 : rtab .any (opsOf Try.f11 22) = flyleaflaw15_RegionAsks.T22 := by kernel_rfl
theorem flyleaflaw15_RegionAsks.bits22 : waitsOk flyleaflaw15_RegionAsks.T22.2 flyleaflaw15_RegionAsks.B22 = true := by kernel_rfl
set_option maxHeartbeats 8000000 in
set_option maxRecDepth 100000 in
theorem flyleaflaw15_RegionAsks.calls (k : Nat) (A0 : Option Addr) (c0 : Nat) (l0 : List (S69)) (a1_0 : Int) (a1_1 : Int) (a1_2 : Int) (a1_3 : Int) (r : Bool) (w : World) (hr0 : Kd.C k69 w A0 l0.length l0) (hc0 : l0.length ≤ c0) (h : flyleaflaw15_RegionAsks.f k l0 a1_0 a1_1 a1_2 a1_3 = some r) :
    Calls Try.prog 11 #[.slice A0 l0.length c0, .agg #[.int .i64 a1_0, .int .i64 a1_1, .int .i64 a1_2, .int .i64 a1_3]] w fun e w' => e = .returned (.bool r) ∧ Below w.heap.size w w' := by
 have hu39 := Try.underlying39
 have hu69 := Try.underlying69
 have hu41 := Try.underlying41
 have hu77 := Try.underlying77
 have HR0 := Aside0.mk hr0
 have HC0 := Aside0.mk hc0
 clear hr0 hc0
 have HB := Aside0.mk (Below.refl w.heap.size w)
 have H : ((flyleaflaw15_awake.f k).bind fun t314 => (flyleaflaw15_RegionAsks.l0 k l0 t314 ([] : List (S41)) 0 a1_0 a1_1 a1_2 a1_3)) = some r := h
 clear h
 replace H := Option.bind_eq_some_iff.mp H
 obtain ⟨t314, A30, H⟩ := H
 replace H : (flyleaflaw15_RegionAsks.l0 k l0 t314 ([] : List (S41)) 0 a1_0 a1_1 a1_2 a1_3) = some r := H
 have A3 := Aside0.mk A30
 clear A30
 have H' := Aside0.mk H
 clear H
 go_enter Try.func11, Try.ntmps11
 go_wp2_with (first | ((with_reducible refine gate_dst (N := 3) rfl ?_); refine box_event ?hg (N := 3) ?hd (cs := #[.int .i64 a1_0, .int .i64 a1_1, .int .i64 a1_2, .int .i64 a1_3]) (t := 39) ?hr ?_; (case hd => rfl); (case hg => rfl); (case hr => first | (go_simp; done) | (go_simp; rfl)); intro gb313 hg w4 hbox hb; have n0_ := Aside0.mk (below_step (by repeat (first | (with_reducible first | exact HB.out | apply below_alloc | apply pw_below_drewN | apply below_drew1) | exact HB.out)) hb); have n1_ := Aside0.mk (hbox); have n2_ := Aside0.mk ((by rw [hg]; exact (below_size (by repeat (first | (with_reducible first | exact HB.out | apply below_alloc | apply pw_below_drewN | apply below_drew1) | exact HB.out))) : w.heap.size ≤ gb313)); have n3_ := Aside0.mk ((by rw [hg]; exact (below_size (by repeat (first | (with_reducible first | exact HB.out | apply below_alloc | apply pw_below_drewN | apply below_drew1) | exact HB.out))) : w.heap.size ≤ gb313)); clear HB; have HB := n0_; have BK313 := n1_; have GW313 := n2_; have GE313 := n3_; clear n0_ n1_ n2_ n3_; clear hb hbox hg) | ((with_reducible refine gate_callee (f := 23) rfl ?_); refine goesL_ (some 25) rfl rfl Try.func23 (by kernel_rfl) rfl #[] rfl (by (try simp only [List.map_toArray, List.map_cons, List.map_nil]); first | done | rfl | (simp only [List.length_drop, List.length_take]; rfl)) ?_; (with_reducible refine (flyleaflaw15_awake.calls k  t314 _ A3.out).mono ?_); rintro e w5 ⟨rfl, hb⟩; refine ⟨_, rfl, ?_⟩; have n0_ := Aside0.mk (blk_below (g := gb313) (o := .cells #[.int .i64 a1_0, .int .i64 a1_1, .int .i64 a1_2, .int .i64 a1_3] 39 (0, 0)) (by (with_reducible repeat (first | refine blk_drewN ?_ _ | refine blk_drew ?_ | refine blk_alloc ?_ _)); exact BK313.out) hb); have n1_ := Aside0.mk (below_step (by repeat (first | (with_reducible first | exact HB.out | apply below_alloc | apply pw_below_drewN | apply below_drew1 | refine below_set ?_ GE313.out) | exact HB.out)) hb); clear BK313; clear HB; have BK313 := n0_; have HB := n1_; clear n0_ n1_; (try clear hb); (try clear hb2); (try clear hk); (try clear hi)))
 go_loopg [6, 7] k (fun kq v6 v7 w' => ∃ (x6_1 : List (S41)) (x7_1 : Int), v7 = .int .i64 x7_1 ∧ Aside0 (flyleaflaw15_RegionAsks.l0 kq l0 t314 x6_1 x7_1 a1_0 a1_1 a1_2 a1_3 = some r) ∧ Aside0 (kq ≤ k) ∧ Aside0 (Kd.R k41 41 w' w.heap.size (fun _ => True) v6 x6_1) ∧ Aside0 (w'.heap[gb313]? = some (.cells #[.int .i64 a1_0, .int .i64 a1_1, .int .i64 a1_2, .int .i64 a1_3] 39 (0, 0))) ∧ Aside0 (Below w.heap.size w w'))
 case atStart => exact ⟨(([] : List (S41))), (0), (by first | rfl | (simp; done) | (simp [*]; done)), H', ⟨Nat.le_refl _⟩, ⟨by first | exact Kd.R_nil _ _ _ _ _ | exact Kd.N_nil _ _ _ _ _ | exact Kd.V_nil _ _ _ _ _ | exact Kd.Q_nil _ _ _ _ _ | exact Kd.S_nil _ _ _ _ _⟩, ⟨by (with_reducible repeat (first | refine blk_drewN ?_ _ | refine blk_drew ?_ | refine blk_alloc ?_ _)); exact BK313.out⟩, ⟨by repeat (first | (with_reducible first | exact HB.out | apply below_alloc | apply pw_below_drewN | apply below_drew1 | refine below_set ?_ GE313.out) | exact HB.out)⟩⟩
 case round =>
  clear H'
  try clear c1
  try clear c2
  try clear p2
  obtain ⟨x6_1, x7_1, rfl, HA, HK1, HO_6, BK313, HB⟩ := hrel
  cases gk with
  | zero => exact absurd HA.out (by simp [flyleaflaw15_RegionAsks.l0])
  | succ k1 =>
   have H := HA.out
   clear HA
   simp only [flyleaflaw15_RegionAsks.l0] at H
   have HC6 := Aside0.mk H
   clear H
   go_upto_region 4 with (fail)
   go_cut [33] (fun v33 wc => ∃ (kq : Nat) (x33_5 : Bool), v33 = .bool x33_5 ∧ Aside0 (flyleaflaw15_RegionAsks.j1 kq l0 t314 x6_1 x7_1 x33_5 a1_0 a1_1 a1_2 a1_3 = some r) ∧ Aside0 (kq ≤ k1) ∧ Aside0 (Kd.R k41 41 wc w.heap.size (fun _ => True) u6 x6_1) ∧ Aside0 (wc.heap[gb313]? = some (.cells #[.int .i64 a1_0, .int .i64 a1_1, .int .i64 a1_2, .int .i64 a1_3] 39 (0, 0))) ∧ Aside0 (Below w.heap.size w wc))
   case first =>
    have H := HC6.out
    clear HC6
    by_cases c7 : x7_1 < (l0.length : Int)
    rotate_left
    · rw [if_neg c7] at H
      have c7b0 : decide (x7_1 < (l0.length : Int)) = false := decide_eq_false c7
      clear c7
      (first | rw [c7b0] | (simp only [i64_w, i32_w]; rw [c7b0]) | skip)
      have H' := Aside0.mk H
      clear H
      go_wp2
      go_meet
      case rel => exact ⟨_, (false), (by first | rfl | (simp; done) | (simp [*]; done)), H', ⟨by have := HK1.out; first | omega | exact Nat.le_refl _⟩, ⟨by (with_reducible repeat (first | apply Kd.R_alloc | apply Kd.R_drewN | apply Kd.R_drew)); exact HO_6.out⟩, ⟨by (with_reducible repeat (first | refine blk_drewN ?_ _ | refine blk_drew ?_ | refine blk_alloc ?_ _)); exact BK313.out⟩, ⟨by repeat (first | (with_reducible first | exact HB.out | apply below_alloc | apply pw_below_drewN | apply below_drew1 | refine below_set ?_ GE313.out) | exact HB.out)⟩⟩
    rw [if_pos c7] at H
    have c7b0 : decide (x7_1 < (l0.length : Int)) = true := decide_eq_true c7
    clear c7
    (first | rw [c7b0] | (simp only [i64_w, i32_w]; rw [c7b0]) | skip)
    have H' := Aside0.mk H
    clear H
    go_wp2
    go_meet
    case rel => exact ⟨_, (decide (x7_1 < 15)), (by first | rfl | (simp; done) | (simp [*]; done)), H', ⟨by have := HK1.out; first | omega | exact Nat.le_refl _⟩, ⟨by (with_reducible repeat (first | apply Kd.R_alloc | apply Kd.R_drewN | apply Kd.R_drew)); exact HO_6.out⟩, ⟨by (with_reducible repeat (first | refine blk_drewN ?_ _ | refine blk_drew ?_ | refine blk_alloc ?_ _)); exact BK313.out⟩, ⟨by repeat (first | (with_reducible first | exact HB.out | apply below_alloc | apply pw_below_drewN | apply below_drew1 | refine below_set ?_ GE313.out) | exact HB.out)⟩⟩
   case rest =>
    clear HC6
    try clear c1
    try clear c2
    try clear p2
    try clear c7
    try clear c7b0
    try clear p2
    obtain ⟨kq, x33_5, rfl, HA, HJ5, HO_6, BK313, HB⟩ := hcut
    cases kq with
    | zero => exact absurd HA.out (by simp [flyleaflaw15_RegionAsks.j1])
    | succ kj5 =>
     have H := HA.out
     clear HA
     simp only [flyleaflaw15_RegionAsks.j1] at H
     by_cases c8 : x33_5 = true
     · subst c8
       have H1 : (if 0 ≤ x7_1 then (if x7_1 < (l0.length : Int) then ((flyleaflaw15_Op_small.f ((rd_T69 l0 x7_1).f0) ((rd_T69 l0 x7_1).f1) ((rd_T69 l0 x7_1).f2) ((rd_T69 l0 x7_1).f3) ((rd_T69 l0 x7_1).f4) ((rd_T69 l0 x7_1).f5.f0) ((rd_T69 l0 x7_1).f5.f1) ((rd_T69 l0 x7_1).f5.f2) ((rd_T69 l0 x7_1).f5.f3) ((rd_T69 l0 x7_1).f5.f4) ((rd_T69 l0 x7_1).f5.f5)).bind fun bt316 => ((flyleaflaw15_Op_of.f kj5 bt316.1 bt316.2.1 bt316.2.2.1 bt316.2.2.2.1 bt316.2.2.2.2.1 bt316.2.2.2.2.2.1 bt316.2.2.2.2.2.2.1 bt316.2.2.2.2.2.2.2.1 bt316.2.2.2.2.2.2.2.2.1 bt316.2.2.2.2.2.2.2.2.2.1 bt316.2.2.2.2.2.2.2.2.2.2 x6_1).bind fun bt327 => (if bt327.2 = 0 then (flyleaflaw15_RegionAsks.l0 kj5 l0 t314 bt327.1 (wrap64 (x7_1 + 1)) a1_0 a1_1 a1_2 a1_3) else (flyleaflaw15_RegionAsks.l0 kj5 l0 t314 x6_1 (wrap64 (x7_1 + 1)) a1_0 a1_1 a1_2 a1_3)))) else (none)) else (none)) = some r := by rw [if_pos rfl] at H; exact H
       clear H
       have H := H1
       clear H1
       by_cases c9 : 0 ≤ x7_1
       rotate_left
       · rw [if_neg c9] at H
         exact absurd H (by simp)
       rw [if_pos c9] at H
       have c9b0 : decide (0 ≤ x7_1) = true := decide_eq_true c9
       clear c9
       by_cases c10 : x7_1 < (l0.length : Int)
       rotate_left
       · rw [if_neg c10] at H
         exact absurd H (by simp)
       rw [if_pos c10] at H
       have c10b0 : decide (x7_1 < (l0.length : Int)) = true := decide_eq_true c10
       clear c10
       replace H := Option.bind_eq_some_iff.mp H
       obtain ⟨⟨t316, t317, t318, t319, t320, t321, t322, t323, t324, t325, t326⟩, A110, H⟩ := H
       replace H : ((flyleaflaw15_Op_of.f kj5 t316 t317 t318 t319 t320 t321 t322 t323 t324 t325 t326 x6_1).bind fun bt327 => (if bt327.2 = 0 then (flyleaflaw15_RegionAsks.l0 kj5 l0 t314 bt327.1 (wrap64 (x7_1 + 1)) a1_0 a1_1 a1_2 a1_3) else (flyleaflaw15_RegionAsks.l0 kj5 l0 t314 x6_1 (wrap64 (x7_1 + 1)) a1_0 a1_1 a1_2 a1_3))) = some r := H
       have A11 := Aside0.mk A110
       clear A110
       replace H := Option.bind_eq_some_iff.mp H
       obtain ⟨⟨t327, t330⟩, A120, H⟩ := H
       replace H : (if t330 = 0 then (flyleaflaw15_RegionAsks.l0 kj5 l0 t314 t327 (wrap64 (x7_1 + 1)) a1_0 a1_1 a1_2 a1_3) else (flyleaflaw15_RegionAsks.l0 kj5 l0 t314 x6_1 (wrap64 (x7_1 + 1)) a1_0 a1_1 a1_2 a1_3)) = some r := H
       have A12 := Aside0.mk A120
       clear A120
       by_cases c13 : t330 = 0
       rotate_left
       · rw [if_neg c13] at H
         have c13b0 : (t330 == 0) = false := beq_eq_false_iff_ne.mpr c13
         have c13b1 : (t330 != 0) = true := bne_iff_ne.mpr c13
         have H' := Aside0.mk H
         clear H
         have p315 : 0 ≤ (x7_1 : Int) := of_decide_eq_true (by first | (with_reducible assumption) | assumption)
         have q315 : x7_1 < (l0.length : Int) := of_decide_eq_true (by first | (with_reducible assumption) | assumption)
         obtain ⟨ad315, e315, hx315_0, hx315_1, hx315_2, hx315_3, hx315_4, hx315_5, hx315_6, hx315_7, hx315_8, hx315_9, hx315_10⟩ := at_T69 HR0.out x7_1 p315 q315
         cases e315
         replace hx315_0 := up_ hx315_0 HB.out
         replace hx315_1 := up_ hx315_1 HB.out
         replace hx315_2 := up_ hx315_2 HB.out
         replace hx315_3 := up_ hx315_3 HB.out
         replace hx315_4 := up_ hx315_4 HB.out
         replace hx315_5 := up_ hx315_5 HB.out
         replace hx315_6 := up_ hx315_6 HB.out
         replace hx315_7 := up_ hx315_7 HB.out
         replace hx315_8 := up_ hx315_8 HB.out
         replace hx315_9 := up_ hx315_9 HB.out
         replace hx315_10 := up_ hx315_10 HB.out
         replace p315 := eq_true p315
         replace q315 := eq_true q315
         go_wp2_with (first | ((with_reducible refine gate_callee (f := 33) rfl ?_); refine goesL_ (some 41) rfl rfl Try.func33 (by kernel_rfl) rfl #[.agg #[.int .i64 ((rd_T69 l0 x7_1).f0), .int .i64 ((rd_T69 l0 x7_1).f1), .int .i64 ((rd_T69 l0 x7_1).f2), .int .i64 ((rd_T69 l0 x7_1).f3), .bool ((rd_T69 l0 x7_1).f4), .int .i64 ((rd_T69 l0 x7_1).f5.f0), .int .i64 ((rd_T69 l0 x7_1).f5.f1), .int .i64 ((rd_T69 l0 x7_1).f5.f2), .int .i64 ((rd_T69 l0 x7_1).f5.f3), .int .i64 ((rd_T69 l0 x7_1).f5.f4), .int .i64 ((rd_T69 l0 x7_1).f5.f5)]] rfl (by (try simp only [List.map_toArray, List.map_cons, List.map_nil]); first | done | rfl | (simp only [List.length_drop, List.length_take]; rfl)) ?_; (with_reducible refine (flyleaflaw15_Op_small.calls ((rd_T69 l0 x7_1).f0) ((rd_T69 l0 x7_1).f1) ((rd_T69 l0 x7_1).f2) ((rd_T69 l0 x7_1).f3) ((rd_T69 l0 x7_1).f4) ((rd_T69 l0 x7_1).f5.f0) ((rd_T69 l0 x7_1).f5.f1) ((rd_T69 l0 x7_1).f5.f2) ((rd_T69 l0 x7_1).f5.f3) ((rd_T69 l0 x7_1).f5.f4) ((rd_T69 l0 x7_1).f5.f5) t316 t317 t318 t319 t320 t321 t322 t323 t324 t325 t326 _ A11.out).mono ?_); rintro e w17 ⟨rfl, hb⟩; refine ⟨_, rfl, ?_⟩; have n0_ := Aside0.mk (Kd.R_below (by (with_reducible repeat (first | apply Kd.R_alloc | apply Kd.R_drewN | apply Kd.R_drew)); exact HO_6.out) hb); have n1_ := Aside0.mk (blk_below (g := gb313) (o := .cells #[.int .i64 a1_0, .int .i64 a1_1, .int .i64 a1_2, .int .i64 a1_3] 39 (0, 0)) (by (with_reducible repeat (first | refine blk_drewN ?_ _ | refine blk_drew ?_ | refine blk_alloc ?_ _)); exact BK313.out) hb); have n2_ := Aside0.mk (below_step (by repeat (first | (with_reducible first | exact HB.out | apply below_alloc | apply pw_below_drewN | apply below_drew1 | refine below_set ?_ GE313.out) | exact HB.out)) hb); clear HO_6; clear BK313; clear HB; have HO_6 := n0_; have BK313 := n1_; have HB := n2_; clear n0_ n1_ n2_; (try clear hb); (try clear hb2); (try clear hk); (try clear hi); obtain ⟨Ao18, co18, eo18⟩ := Kd.R_slice HO_6.out; subst eo18) | ((with_reducible refine gate_callee (f := 34) rfl ?_); refine goesL_ (some 43) rfl rfl Try.func34 (by kernel_rfl) rfl #[.agg #[.int .i64 t316, .int .i64 t317, .int .i64 t318, .int .i64 t319, .bool t320, .int .i64 t321, .int .i64 t322, .int .i64 t323, .int .i64 t324, .int .i64 t325, .int .i64 t326], .slice Ao18 x6_1.length co18] rfl (by (try simp only [List.map_toArray, List.map_cons, List.map_nil]); first | done | rfl | (simp only [List.length_drop, List.length_take]; rfl)) ?_; (with_reducible refine (flyleaflaw15_Op_of.calls kj5 t316 t317 t318 t319 t320 t321 t322 t323 t324 t325 t326 _ _ x6_1 t327 t330 _ ?side1 ?side2 A12.out).mono ?_); (case side1 => repeat (first | exact (Kd.R_reads' HO_6.out).2.2 | (with_reducible refine Kd.C_alloc ?_ _) | (with_reducible refine Kd.C_drewN ?_ _) | (with_reducible refine Kd.C_drew ?_))); (case side2 => exact (Kd.R_reads' HO_6.out).2.1); rintro e w19 ⟨v328, rfl, ho0, hb⟩; refine ⟨_, rfl, ?_⟩; have n0_ := Aside0.mk (Kd.R_elder' (by (with_reducible repeat (first | apply Kd.R_alloc | apply Kd.R_drewN | apply Kd.R_drew)); exact HO_6.out) (Kd.R_base ho0) hb); have n1_ := Aside0.mk (Kd.R_lower (Kd.R_new' ho0 (Kd.R_lt (by (with_reducible repeat (first | apply Kd.R_alloc | apply Kd.R_drewN | apply Kd.R_drew)); exact HO_6.out))) (below_size (by repeat (first | (with_reducible first | exact HB.out | apply below_alloc | apply pw_below_drewN | apply below_drew1 | refine below_set ?_ GE313.out) | exact HB.out)))); have n2_ := Aside0.mk (blk_below (g := gb313) (o := .cells #[.int .i64 a1_0, .int .i64 a1_1, .int .i64 a1_2, .int .i64 a1_3] 39 (0, 0)) (by (with_reducible repeat (first | refine blk_drewN ?_ _ | refine blk_drew ?_ | refine blk_alloc ?_ _)); exact BK313.out) hb); have n3_ := Aside0.mk (below_step (by repeat (first | (with_reducible first | exact HB.out | apply below_alloc | apply pw_below_drewN | apply below_drew1 | refine below_set ?_ GE313.out) | exact HB.out)) hb); clear HO_6; clear BK313; clear HB; have HO_6 := n0_; have HO329 := n1_; have BK313 := n2_; have HB := n3_; clear n0_ n1_ n2_ n3_; (try clear hb); (try clear hb2); (try clear hk); (try clear hi); (try clear ho0)))
         go_roundg kj5
         case measure => have := HK1.out; have := HJ5.out; omega
         case rel => exact ⟨(x6_1), (wrap64 (x7_1 + 1)), (by first | rfl | (simp; done) | (simp [*]; done)), H', ⟨by have := HK1.out; have := HJ5.out; omega⟩, ⟨by (with_reducible repeat (first | apply Kd.R_alloc | apply Kd.R_drewN | apply Kd.R_drew)); exact Kd.R_mono HO_6.out (fun _ hk => trivial)⟩, ⟨by (with_reducible repeat (first | refine blk_drewN ?_ _ | refine blk_drew ?_ | refine blk_alloc ?_ _)); exact BK313.out⟩, ⟨by repeat (first | (with_reducible first | exact HB.out | apply below_alloc | apply pw_below_drewN | apply below_drew1 | refine below_set ?_ GE313.out) | exact HB.out)⟩⟩
       rw [if_pos c13] at H
       have c13b0 : (t330 == 0) = true := beq_iff_eq.mpr c13
       have c13b1 : (t330 != 0) = false := bne_eq_false_iff_eq.mpr c13
       clear c13
       have H' := Aside0.mk H
       clear H
       have p315 : 0 ≤ (x7_1 : Int) := of_decide_eq_true (by first | (with_reducible assumption) | assumption)
       have q315 : x7_1 < (l0.length : Int) := of_decide_eq_true (by first | (with_reducible assumption) | assumption)
       obtain ⟨ad315, e315, hx315_0, hx315_1, hx315_2, hx315_3, hx315_4, hx315_5, hx315_6, hx315_7, hx315_8, hx315_9, hx315_10⟩ := at_T69 HR0.out x7_1 p315 q315
       cases e315
       replace hx315_0 := up_ hx315_0 HB.out
       replace hx315_1 := up_ hx315_1 HB.out
       replace hx315_2 := up_ hx315_2 HB.out
       replace hx315_3 := up_ hx315_3 HB.out
       replace hx315_4 := up_ hx315_4 HB.out
       replace hx315_5 := up_ hx315_5 HB.out
       replace hx315_6 := up_ hx315_6 HB.out
       replace hx315_7 := up_ hx315_7 HB.out
       replace hx315_8 := up_ hx315_8 HB.out
       replace hx315_9 := up_ hx315_9 HB.out
       replace hx315_10 := up_ hx315_10 HB.out
       replace p315 := eq_true p315
       replace q315 := eq_true q315
       go_wp2_with (first | ((with_reducible refine gate_callee (f := 33) rfl ?_); refine goesL_ (some 41) rfl rfl Try.func33 (by kernel_rfl) rfl #[.agg #[.int .i64 ((rd_T69 l0 x7_1).f0), .int .i64 ((rd_T69 l0 x7_1).f1), .int .i64 ((rd_T69 l0 x7_1).f2), .int .i64 ((rd_T69 l0 x7_1).f3), .bool ((rd_T69 l0 x7_1).f4), .int .i64 ((rd_T69 l0 x7_1).f5.f0), .int .i64 ((rd_T69 l0 x7_1).f5.f1), .int .i64 ((rd_T69 l0 x7_1).f5.f2), .int .i64 ((rd_T69 l0 x7_1).f5.f3), .int .i64 ((rd_T69 l0 x7_1).f5.f4), .int .i64 ((rd_T69 l0 x7_1).f5.f5)]] rfl (by (try simp only [List.map_toArray, List.map_cons, List.map_nil]); first | done | rfl | (simp only [List.length_drop, List.length_take]; rfl)) ?_; (with_reducible refine (flyleaflaw15_Op_small.calls ((rd_T69 l0 x7_1).f0) ((rd_T69 l0 x7_1).f1) ((rd_T69 l0 x7_1).f2) ((rd_T69 l0 x7_1).f3) ((rd_T69 l0 x7_1).f4) ((rd_T69 l0 x7_1).f5.f0) ((rd_T69 l0 x7_1).f5.f1) ((rd_T69 l0 x7_1).f5.f2) ((rd_T69 l0 x7_1).f5.f3) ((rd_T69 l0 x7_1).f5.f4) ((rd_T69 l0 x7_1).f5.f5) t316 t317 t318 t319 t320 t321 t322 t323 t324 t325 t326 _ A11.out).mono ?_); rintro e w14 ⟨rfl, hb⟩; refine ⟨_, rfl, ?_⟩; have n0_ := Aside0.mk (Kd.R_below (by (with_reducible repeat (first | apply Kd.R_alloc | apply Kd.R_drewN | apply Kd.R_drew)); exact HO_6.out) hb); have n1_ := Aside0.mk (blk_below (g := gb313) (o := .cells #[.int .i64 a1_0, .int .i64 a1_1, .int .i64 a1_2, .int .i64 a1_3] 39 (0, 0)) (by (with_reducible repeat (first | refine blk_drewN ?_ _ | refine blk_drew ?_ | refine blk_alloc ?_ _)); exact BK313.out) hb); have n2_ := Aside0.mk (below_step (by repeat (first | (with_reducible first | exact HB.out | apply below_alloc | apply pw_below_drewN | apply below_drew1 | refine below_set ?_ GE313.out) | exact HB.out)) hb); clear HO_6; clear BK313; clear HB; have HO_6 := n0_; have BK313 := n1_; have HB := n2_; clear n0_ n1_ n2_; (try clear hb); (try clear hb2); (try clear hk); (try clear hi); obtain ⟨Ao15, co15, eo15⟩ := Kd.R_slice HO_6.out; subst eo15) | ((with_reducible refine gate_callee (f := 34) rfl ?_); refine goesL_ (some 43) rfl rfl Try.func34 (by kernel_rfl) rfl #[.agg #[.int .i64 t316, .int .i64 t317, .int .i64 t318, .int .i64 t319, .bool t320, .int .i64 t321, .int .i64 t322, .int .i64 t323, .int .i64 t324, .int .i64 t325, .int .i64 t326], .slice Ao15 x6_1.length co15] rfl (by (try simp only [List.map_toArray, List.map_cons, List.map_nil]); first | done | rfl | (simp only [List.length_drop, List.length_take]; rfl)) ?_; (with_reducible refine (flyleaflaw15_Op_of.calls kj5 t316 t317 t318 t319 t320 t321 t322 t323 t324 t325 t326 _ _ x6_1 t327 t330 _ ?side1 ?side2 A12.out).mono ?_); (case side1 => repeat (first | exact (Kd.R_reads' HO_6.out).2.2 | (with_reducible refine Kd.C_alloc ?_ _) | (with_reducible refine Kd.C_drewN ?_ _) | (with_reducible refine Kd.C_drew ?_))); (case side2 => exact (Kd.R_reads' HO_6.out).2.1); rintro e w16 ⟨v328, rfl, ho0, hb⟩; refine ⟨_, rfl, ?_⟩; have n0_ := Aside0.mk (Kd.R_elder' (by (with_reducible repeat (first | apply Kd.R_alloc | apply Kd.R_drewN | apply Kd.R_drew)); exact HO_6.out) (Kd.R_base ho0) hb); have n1_ := Aside0.mk (Kd.R_lower (Kd.R_new' ho0 (Kd.R_lt (by (with_reducible repeat (first | apply Kd.R_alloc | apply Kd.R_drewN | apply Kd.R_drew)); exact HO_6.out))) (below_size (by repeat (first | (with_reducible first | exact HB.out | apply below_alloc | apply pw_below_drewN | apply below_drew1 | refine below_set ?_ GE313.out) | exact HB.out)))); have n2_ := Aside0.mk (blk_below (g := gb313) (o := .cells #[.int .i64 a1_0, .int .i64 a1_1, .int .i64 a1_2, .int .i64 a1_3] 39 (0, 0)) (by (with_reducible repeat (first | refine blk_drewN ?_ _ | refine blk_drew ?_ | refine blk_alloc ?_ _)); exact BK313.out) hb); have n3_ := Aside0.mk (below_step (by repeat (first | (with_reducible first | exact HB.out | apply below_alloc | apply pw_below_drewN | apply below_drew1 | refine below_set ?_ GE313.out) | exact HB.out)) hb); clear HO_6; clear BK313; clear HB; have HO_6 := n0_; have HO329 := n1_; have BK313 := n2_; have HB := n3_; clear n0_ n1_ n2_ n3_; (try clear hb); (try clear hb2); (try clear hk); (try clear hi); (try clear ho0)))
       go_roundg kj5
       case measure => have := HK1.out; have := HJ5.out; omega
       case rel => exact ⟨(t327), (wrap64 (x7_1 + 1)), (by first | rfl | (simp; done) | (simp [*]; done)), H', ⟨by have := HK1.out; have := HJ5.out; omega⟩, ⟨by (with_reducible repeat (first | apply Kd.R_alloc | apply Kd.R_drewN | apply Kd.R_drew)); exact Kd.R_mono HO329.out (fun _ hk => trivial)⟩, ⟨by (with_reducible repeat (first | refine blk_drewN ?_ _ | refine blk_drew ?_ | refine blk_alloc ?_ _)); exact BK313.out⟩, ⟨by repeat (first | (with_reducible first | exact HB.out | apply below_alloc | apply pw_below_drewN | apply below_drew1 | refine below_set ?_ GE313.out) | exact HB.out)⟩⟩
     replace c8 := Bool.eq_false_iff.mpr c8
     subst c8
     have H1 : ((region_Find.f kj5 x6_1 a1_0).bind fun bt331 => ((flyleafref15_Find.f kj5 x6_1 a1_0).bind fun bt339 => ((region_Gap.f kj5 x6_1 a1_1 a1_2 a1_3).bind fun bt347 => ((flyleafref15_Gap.f kj5 x6_1 a1_1 a1_2 a1_3).bind fun bt349 => ((region_Key.f bt331.1 bt331.2.1 bt331.2.2.1 bt331.2.2.2.1 bt331.2.2.2.2.1 bt331.2.2.2.2.2.1 a1_0).bind fun bt351 => ((flyleafref15_Key.f bt339.1 bt339.2.1 bt339.2.2.1 bt339.2.2.2.1 bt339.2.2.2.2.1 bt339.2.2.2.2.2.1 a1_0).bind fun bt355 => ((flyleafref15_Spread.f kj5 x6_1).bind fun t359 => (flyleaflaw15_RegionAsks.l1 kj5 t314 x6_1 bt331.2.2.2.2.2.2 bt339.2.2.2.2.2.2 bt347.1 bt347.2 bt349.1 bt349.2 bt351.2.2 bt355.2.2 0 t359 0 a1_0 a1_1 a1_2 a1_3 bt331.1 bt331.2.1 bt331.2.2.1 bt331.2.2.2.1 bt331.2.2.2.2.1 bt331.2.2.2.2.2.1 bt339.1 bt339.2.1 bt339.2.2.1 bt339.2.2.2.1 bt339.2.2.2.2.1 bt339.2.2.2.2.2.1 bt351.1 bt351.2.1 bt355.1 bt355.2.1)))))))) = some r := by rw [if_neg (show ¬ (false = true) by decide)] at H; exact H
     clear H
     have H := H1
     clear H1
     replace H := Option.bind_eq_some_iff.mp H
     obtain ⟨⟨t331, t332, t333, t334, t335, t336, t337⟩, A200, H⟩ := H
     replace H : ((flyleafref15_Find.f kj5 x6_1 a1_0).bind fun bt339 => ((region_Gap.f kj5 x6_1 a1_1 a1_2 a1_3).bind fun bt347 => ((flyleafref15_Gap.f kj5 x6_1 a1_1 a1_2 a1_3).bind fun bt349 => ((region_Key.f t331 t332 t333 t334 t335 t336 a1_0).bind fun bt351 => ((flyleafref15_Key.f bt339.1 bt339.2.1 bt339.2.2.1 bt339.2.2.2.1 bt339.2.2.2.2.1 bt339.2.2.2.2.2.1 a1_0).bind fun bt355 => ((flyleafref15_Spread.f kj5 x6_1).bind fun t359 => (flyleaflaw15_RegionAsks.l1 kj5 t314 x6_1 t337 bt339.2.2.2.2.2.2 bt347.1 bt347.2 bt349.1 bt349.2 bt351.2.2 bt355.2.2 0 t359 0 a1_0 a1_1 a1_2 a1_3 t331 t332 t333 t334 t335 t336 bt339.1 bt339.2.1 bt339.2.2.1 bt339.2.2.2.1 bt339.2.2.2.2.1 bt339.2.2.2.2.2.1 bt351.1 bt351.2.1 bt355.1 bt355.2.1))))))) = some r := H
     have A20 := Aside0.mk A200
     clear A200
     replace H := Option.bind_eq_some_iff.mp H
     obtain ⟨⟨t339, t340, t341, t342, t343, t344, t345⟩, A210, H⟩ := H
     replace H : ((region_Gap.f kj5 x6_1 a1_1 a1_2 a1_3).bind fun bt347 => ((flyleafref15_Gap.f kj5 x6_1 a1_1 a1_2 a1_3).bind fun bt349 => ((region_Key.f t331 t332 t333 t334 t335 t336 a1_0).bind fun bt351 => ((flyleafref15_Key.f t339 t340 t341 t342 t343 t344 a1_0).bind fun bt355 => ((flyleafref15_Spread.f kj5 x6_1).bind fun t359 => (flyleaflaw15_RegionAsks.l1 kj5 t314 x6_1 t337 t345 bt347.1 bt347.2 bt349.1 bt349.2 bt351.2.2 bt355.2.2 0 t359 0 a1_0 a1_1 a1_2 a1_3 t331 t332 t333 t334 t335 t336 t339 t340 t341 t342 t343 t344 bt351.1 bt351.2.1 bt355.1 bt355.2.1)))))) = some r := H
     have A21 := Aside0.mk A210
     clear A210
     replace H := Option.bind_eq_some_iff.mp H
     obtain ⟨⟨t347, t348⟩, A220, H⟩ := H
     replace H : ((flyleafref15_Gap.f kj5 x6_1 a1_1 a1_2 a1_3).bind fun bt349 => ((region_Key.f t331 t332 t333 t334 t335 t336 a1_0).bind fun bt351 => ((flyleafref15_Key.f t339 t340 t341 t342 t343 t344 a1_0).bind fun bt355 => ((flyleafref15_Spread.f kj5 x6_1).bind fun t359 => (flyleaflaw15_RegionAsks.l1 kj5 t314 x6_1 t337 t345 t347 t348 bt349.1 bt349.2 bt351.2.2 bt355.2.2 0 t359 0 a1_0 a1_1 a1_2 a1_3 t331 t332 t333 t334 t335 t336 t339 t340 t341 t342 t343 t344 bt351.1 bt351.2.1 bt355.1 bt355.2.1))))) = some r := H
     have A22 := Aside0.mk A220
     clear A220
     replace H := Option.bind_eq_some_iff.mp H
     obtain ⟨⟨t349, t350⟩, A230, H⟩ := H
     replace H : ((region_Key.f t331 t332 t333 t334 t335 t336 a1_0).bind fun bt351 => ((flyleafref15_Key.f t339 t340 t341 t342 t343 t344 a1_0).bind fun bt355 => ((flyleafref15_Spread.f kj5 x6_1).bind fun t359 => (flyleaflaw15_RegionAsks.l1 kj5 t314 x6_1 t337 t345 t347 t348 t349 t350 bt351.2.2 bt355.2.2 0 t359 0 a1_0 a1_1 a1_2 a1_3 t331 t332 t333 t334 t335 t336 t339 t340 t341 t342 t343 t344 bt351.1 bt351.2.1 bt355.1 bt355.2.1)))) = some r := H
     have A23 := Aside0.mk A230
     clear A230
     replace H := Option.bind_eq_some_iff.mp H
     obtain ⟨⟨t351, t352, t353⟩, A240, H⟩ := H
     replace H : ((flyleafref15_Key.f t339 t340 t341 t342 t343 t344 a1_0).bind fun bt355 => ((flyleafref15_Spread.f kj5 x6_1).bind fun t359 => (flyleaflaw15_RegionAsks.l1 kj5 t314 x6_1 t337 t345 t347 t348 t349 t350 t353 bt355.2.2 0 t359 0 a1_0 a1_1 a1_2 a1_3 t331 t332 t333 t334 t335 t336 t339 t340 t341 t342 t343 t344 t351 t352 bt355.1 bt355.2.1))) = some r := H
     have A24 := Aside0.mk A240
     clear A240
     replace H := Option.bind_eq_some_iff.mp H
     obtain ⟨⟨t355, t356, t357⟩, A250, H⟩ := H
     replace H : ((flyleafref15_Spread.f kj5 x6_1).bind fun t359 => (flyleaflaw15_RegionAsks.l1 kj5 t314 x6_1 t337 t345 t347 t348 t349 t350 t353 t357 0 t359 0 a1_0 a1_1 a1_2 a1_3 t331 t332 t333 t334 t335 t336 t339 t340 t341 t342 t343 t344 t351 t352 t355 t356)) = some r := H
     have A25 := Aside0.mk A250
     clear A250
     replace H := Option.bind_eq_some_iff.mp H
     obtain ⟨t359, A260, H⟩ := H
     replace H : (flyleaflaw15_RegionAsks.l1 kj5 t314 x6_1 t337 t345 t347 t348 t349 t350 t353 t357 0 t359 0 a1_0 a1_1 a1_2 a1_3 t331 t332 t333 t334 t335 t336 t339 t340 t341 t342 t343 t344 t351 t352 t355 t356) = some r := H
     have A26 := Aside0.mk A260
     clear A260
     have H' := Aside0.mk H
     clear H
     have hcz27_0 : wc.cell? ⟨gb313, 0, none⟩ = some (.int .i64 a1_0) := (blk_cell BK313.out 0).trans rfl
     have hcz27_1 : wc.cell? ⟨gb313, 1, none⟩ = some (.int .i64 a1_1) := (blk_cell BK313.out 1).trans rfl
     have hcz27_2 : wc.cell? ⟨gb313, 2, none⟩ = some (.int .i64 a1_2) := (blk_cell BK313.out 2).trans rfl
     have hcz27_3 : wc.cell? ⟨gb313, 3, none⟩ = some (.int .i64 a1_3) := (blk_cell BK313.out 3).trans rfl
     have hfz27_0 := blk_frozen BK313.out 0
     have hfz27_1 := blk_frozen BK313.out 1
     have hfz27_2 := blk_frozen BK313.out 2
     have hfz27_3 := blk_frozen BK313.out 3
     obtain ⟨Ao28, co28, eo28⟩ := Kd.R_slice HO_6.out
     subst eo28
     go_wp2_with (first | ((with_reducible refine gate_callee (f := 37) rfl ?_); refine goesL_ (some 53) rfl rfl Try.func37 (by kernel_rfl) rfl #[.slice Ao28 x6_1.length co28, .int .i64 a1_0] rfl (by (try simp only [List.map_toArray, List.map_cons, List.map_nil]); first | done | rfl | (simp only [List.length_drop, List.length_take]; rfl)) ?_; (with_reducible refine (region_Find.calls kj5 _ _ x6_1 a1_0 t331 t332 t333 t334 t335 t336 t337 _ ?side1 ?side2 A20.out).mono ?_); (case side1 => repeat (first | exact (Kd.R_reads' HO_6.out).2.2 | (with_reducible refine Kd.C_alloc ?_ _) | (with_reducible refine Kd.C_drewN ?_ _) | (with_reducible refine Kd.C_drew ?_))); (case side2 => exact (Kd.R_reads' HO_6.out).2.1); rintro e w29 ⟨rfl, hb⟩; refine ⟨_, rfl, ?_⟩; have n0_ := Aside0.mk (Kd.R_below (by (with_reducible repeat (first | apply Kd.R_alloc | apply Kd.R_drewN | apply Kd.R_drew)); exact HO_6.out) hb); have n1_ := Aside0.mk (blk_below (g := gb313) (o := .cells #[.int .i64 a1_0, .int .i64 a1_1, .int .i64 a1_2, .int .i64 a1_3] 39 (0, 0)) (by (with_reducible repeat (first | refine blk_drewN ?_ _ | refine blk_drew ?_ | refine blk_alloc ?_ _)); exact BK313.out) hb); have n2_ := Aside0.mk (below_step (by repeat (first | (with_reducible first | exact HB.out | apply below_alloc | apply pw_below_drewN | apply below_drew1 | refine below_set ?_ GE313.out) | exact HB.out)) hb); clear HO_6; clear BK313; clear HB; have HO_6 := n0_; have BK313 := n1_; have HB := n2_; clear n0_ n1_ n2_; (try clear hb); (try clear hb2); (try clear hk); (try clear hi)) | ((with_reducible refine gate_dst (N := 10) rfl ?_); refine box_event ?hg (N := 10) ?hd (cs := #[.int .i64 0, .int .i64 0, .int .i64 0, .int .i64 0, .int .i64 0, .int .i64 0]) (t := 41) ?hr ?_; (case hd => rfl); (case hg => rfl); (case hr => first | (go_simp; done) | (go_simp; rfl)); intro gb338 hg w30 hbox hb; have n0_ := Aside0.mk (Kd.R_below (Kd.R_elderB (by (with_reducible repeat (first | apply Kd.R_alloc | apply Kd.R_drewN | apply Kd.R_drew)); exact HO_6.out) gb338 (Nat.le_of_eq hg.symm)) hb); have n1_ := Aside0.mk (blk_below (g := gb313) (o := .cells #[.int .i64 a1_0, .int .i64 a1_1, .int .i64 a1_2, .int .i64 a1_3] 39 (0, 0)) (by (with_reducible repeat (first | refine blk_drewN ?_ _ | refine blk_drew ?_ | refine blk_alloc ?_ _)); exact BK313.out) hb); have n2_ := Aside0.mk (below_step (by repeat (first | (with_reducible first | exact HB.out | apply below_alloc | apply pw_below_drewN | apply below_drew1 | refine below_set ?_ GE313.out) | exact HB.out)) hb); have n3_ := Aside0.mk (hbox); have n4_ := Aside0.mk ((by rw [hg]; exact (below_size (by repeat (first | (with_reducible first | exact HB.out | apply below_alloc | apply pw_below_drewN | apply below_drew1 | refine below_set ?_ GE313.out) | exact HB.out))) : w.heap.size ≤ gb338)); have n5_ := Aside0.mk ((by rw [hg]; exact (below_size (by repeat (first | (with_reducible first | exact HB.out | apply below_alloc | apply pw_below_drewN | apply below_drew1 | refine below_set ?_ GE313.out) | exact HB.out))) : w.heap.size ≤ gb338)); have n6_ := Aside0.mk ((by rw [hg]; exact Nat.ne_of_lt (blk_lt (g := gb313) (o := .cells #[.int .i64 a1_0, .int .i64 a1_1, .int .i64 a1_2, .int .i64 a1_3] 39 (0, 0)) (by (with_reducible repeat (first | refine blk_drewN ?_ _ | refine blk_drew ?_ | refine blk_alloc ?_ _)); exact BK313.out)) : gb313 ≠ gb338)); have n7_ := Aside0.mk ((by rw [hg]; exact Nat.ne_of_gt (blk_lt (g := gb313) (o := .cells #[.int .i64 a1_0, .int .i64 a1_1, .int .i64 a1_2, .int .i64 a1_3] 39 (0, 0)) (by (with_reducible repeat (first | refine blk_drewN ?_ _ | refine blk_drew ?_ | refine blk_alloc ?_ _)); exact BK313.out)) : gb338 ≠ gb313)); clear HO_6; clear BK313; clear HB; have HO_6 := n0_; have BK313 := n1_; have HB := n2_; have BK338 := n3_; have GW338 := n4_; have GE338 := n5_; have NB313_338 := n6_; have NB338_313 := n7_; clear n0_ n1_ n2_ n3_ n4_ n5_ n6_ n7_; clear hb hbox hg; have hnb31 := NB338_313.out; have hnc31 := NB313_338.out; have hcz32_0 : w30.cell? ⟨gb338, 0, none⟩ = some (.int .i64 0) := (blk_cell BK338.out 0).trans rfl; have hcz32_1 : w30.cell? ⟨gb338, 1, none⟩ = some (.int .i64 0) := (blk_cell BK338.out 1).trans rfl; have hcz32_2 : w30.cell? ⟨gb338, 2, none⟩ = some (.int .i64 0) := (blk_cell BK338.out 2).trans rfl; have hcz32_3 : w30.cell? ⟨gb338, 3, none⟩ = some (.int .i64 0) := (blk_cell BK338.out 3).trans rfl; have hcz32_4 : w30.cell? ⟨gb338, 4, none⟩ = some (.int .i64 0) := (blk_cell BK338.out 4).trans rfl; have hcz32_5 : w30.cell? ⟨gb338, 5, none⟩ = some (.int .i64 0) := (blk_cell BK338.out 5).trans rfl; have hfz32_0 := blk_frozen BK338.out 0; have hfz32_1 := blk_frozen BK338.out 1; have hfz32_2 := blk_frozen BK338.out 2; have hfz32_3 := blk_frozen BK338.out 3; have hfz32_4 := blk_frozen BK338.out 4; have hfz32_5 := blk_frozen BK338.out 5; have hcz33_0 : w30.cell? ⟨gb313, 0, none⟩ = some (.int .i64 a1_0) := (blk_cell BK313.out 0).trans rfl; have hcz33_1 : w30.cell? ⟨gb313, 1, none⟩ = some (.int .i64 a1_1) := (blk_cell BK313.out 1).trans rfl; have hcz33_2 : w30.cell? ⟨gb313, 2, none⟩ = some (.int .i64 a1_2) := (blk_cell BK313.out 2).trans rfl; have hcz33_3 : w30.cell? ⟨gb313, 3, none⟩ = some (.int .i64 a1_3) := (blk_cell BK313.out 3).trans rfl; have hfz33_0 := blk_frozen BK313.out 0; have hfz33_1 := blk_frozen BK313.out 1; have hfz33_2 := blk_frozen BK313.out 2; have hfz33_3 := blk_frozen BK313.out 3) | ((with_reducible refine gate_callee (f := 41) rfl ?_); refine goesL_ (some 60) rfl rfl Try.func41 (by kernel_rfl) rfl #[.slice Ao28 x6_1.length co28, .int .i64 a1_0] rfl (by (try simp only [List.map_toArray, List.map_cons, List.map_nil]); first | done | rfl | (simp only [List.length_drop, List.length_take]; rfl)) ?_; (with_reducible refine (flyleafref15_Find.calls kj5 _ _ x6_1 a1_0 t339 t340 t341 t342 t343 t344 t345 _ ?side1 ?side2 A21.out).mono ?_); (case side1 => refine (Kd.R_reads' (e := 41) (base := w.heap.size) (ok := fun k_ => (True ∧ k_ ≠ gb338)) (n := x6_1.length) (c := co28) ?_).2.2; exact (by (with_reducible repeat (first | apply Kd.R_alloc | apply Kd.R_drewN | apply Kd.R_drew)); exact (Kd.R_mono (Kd.R_far (p := ⟨gb338, 5, none⟩) (Kd.R_far (p := ⟨gb338, 4, none⟩) (Kd.R_far (p := ⟨gb338, 3, none⟩) (Kd.R_far (p := ⟨gb338, 2, none⟩) (Kd.R_far (p := ⟨gb338, 1, none⟩) (Kd.R_far (p := ⟨gb338, 0, none⟩) (Kd.R_mono HO_6.out (fun k_ hk => (⟨hk, hk.2⟩ : _ ∧ k_ ≠ gb338))) (fun _ hk => hk.2) (.int .i64 t331)) (fun _ hk => hk.2) (.int .i64 t332)) (fun _ hk => hk.2) (.int .i64 t333)) (fun _ hk => hk.2) (.int .i64 t334)) (fun _ hk => hk.2) (.int .i64 t335)) (fun _ hk => hk.2) (.int .i64 t336)) (fun _ h_ => h_.1)))); (case side2 => exact (Kd.R_reads' HO_6.out).2.1); rintro e w34 ⟨rfl, hb⟩; refine ⟨_, rfl, ?_⟩; have n0_ := Aside0.mk (Kd.R_below (by (with_reducible repeat (first | apply Kd.R_alloc | apply Kd.R_drewN | apply Kd.R_drew)); exact (Kd.R_mono (Kd.R_far (p := ⟨gb338, 5, none⟩) (Kd.R_far (p := ⟨gb338, 4, none⟩) (Kd.R_far (p := ⟨gb338, 3, none⟩) (Kd.R_far (p := ⟨gb338, 2, none⟩) (Kd.R_far (p := ⟨gb338, 1, none⟩) (Kd.R_far (p := ⟨gb338, 0, none⟩) (Kd.R_mono HO_6.out (fun k_ hk => (⟨hk, hk.2⟩ : _ ∧ k_ ≠ gb338))) (fun _ hk => hk.2) (.int .i64 t331)) (fun _ hk => hk.2) (.int .i64 t332)) (fun _ hk => hk.2) (.int .i64 t333)) (fun _ hk => hk.2) (.int .i64 t334)) (fun _ hk => hk.2) (.int .i64 t335)) (fun _ hk => hk.2) (.int .i64 t336)) (fun _ h_ => h_.1))) hb); have n1_ := Aside0.mk (blk_below (g := gb313) (o := .cells #[.int .i64 a1_0, .int .i64 a1_1, .int .i64 a1_2, .int .i64 a1_3] 39 (0, 0)) (by (with_reducible repeat (first | refine blk_drewN ?_ _ | refine blk_drew ?_ | refine blk_alloc ?_ _)); refine blk_far ?_ NB313_338.out _; (with_reducible repeat (first | refine blk_drewN ?_ _ | refine blk_drew ?_ | refine blk_alloc ?_ _)); refine blk_far ?_ NB313_338.out _; (with_reducible repeat (first | refine blk_drewN ?_ _ | refine blk_drew ?_ | refine blk_alloc ?_ _)); refine blk_far ?_ NB313_338.out _; (with_reducible repeat (first | refine blk_drewN ?_ _ | refine blk_drew ?_ | refine blk_alloc ?_ _)); refine blk_far ?_ NB313_338.out _; (with_reducible repeat (first | refine blk_drewN ?_ _ | refine blk_drew ?_ | refine blk_alloc ?_ _)); refine blk_far ?_ NB313_338.out _; (with_reducible repeat (first | refine blk_drewN ?_ _ | refine blk_drew ?_ | refine blk_alloc ?_ _)); refine blk_far ?_ NB313_338.out _; (with_reducible repeat (first | refine blk_drewN ?_ _ | refine blk_drew ?_ | refine blk_alloc ?_ _)); exact BK313.out) hb); have n2_ := Aside0.mk (blk_below (g := gb338) (o := .cells #[.int .i64 t331, .int .i64 t332, .int .i64 t333, .int .i64 t334, .int .i64 t335, .int .i64 t336] 41 (0, 0)) (by (with_reducible repeat (first | refine blk_drewN ?_ _ | refine blk_drew ?_ | refine blk_alloc ?_ _)); refine blk_put (cs := #[.int .i64 t331, .int .i64 t332, .int .i64 t333, .int .i64 t334, .int .i64 t335, .int .i64 0]) ?_ 5 _ rfl; (with_reducible repeat (first | refine blk_drewN ?_ _ | refine blk_drew ?_ | refine blk_alloc ?_ _)); refine blk_put (cs := #[.int .i64 t331, .int .i64 t332, .int .i64 t333, .int .i64 t334, .int .i64 0, .int .i64 0]) ?_ 4 _ rfl; (with_reducible repeat (first | refine blk_drewN ?_ _ | refine blk_drew ?_ | refine blk_alloc ?_ _)); refine blk_put (cs := #[.int .i64 t331, .int .i64 t332, .int .i64 t333, .int .i64 0, .int .i64 0, .int .i64 0]) ?_ 3 _ rfl; (with_reducible repeat (first | refine blk_drewN ?_ _ | refine blk_drew ?_ | refine blk_alloc ?_ _)); refine blk_put (cs := #[.int .i64 t331, .int .i64 t332, .int .i64 0, .int .i64 0, .int .i64 0, .int .i64 0]) ?_ 2 _ rfl; (with_reducible repeat (first | refine blk_drewN ?_ _ | refine blk_drew ?_ | refine blk_alloc ?_ _)); refine blk_put (cs := #[.int .i64 t331, .int .i64 0, .int .i64 0, .int .i64 0, .int .i64 0, .int .i64 0]) ?_ 1 _ rfl; (with_reducible repeat (first | refine blk_drewN ?_ _ | refine blk_drew ?_ | refine blk_alloc ?_ _)); refine blk_put (cs := #[.int .i64 0, .int .i64 0, .int .i64 0, .int .i64 0, .int .i64 0, .int .i64 0]) ?_ 0 _ rfl; (with_reducible repeat (first | refine blk_drewN ?_ _ | refine blk_drew ?_ | refine blk_alloc ?_ _)); exact BK338.out) hb); have n3_ := Aside0.mk (below_step (by repeat (first | (with_reducible first | exact HB.out | apply below_alloc | apply pw_below_drewN | apply below_drew1 | refine below_set ?_ GE313.out | refine below_set ?_ GE338.out) | exact HB.out)) hb); clear HO_6; clear BK313; clear BK338; clear HB; have HO_6 := n0_; have BK313 := n1_; have BK338 := n2_; have HB := n3_; clear n0_ n1_ n2_ n3_; (try clear hb); (try clear hb2); (try clear hk); (try clear hi)) | ((with_reducible refine gate_dst (N := 12) rfl ?_); refine box_event ?hg (N := 12) ?hd (cs := #[.int .i64 0, .int .i64 0, .int .i64 0, .int .i64 0, .int .i64 0, .int .i64 0]) (t := 41) ?hr ?_; (case hd => rfl); (case hg => rfl); (case hr => first | (go_simp; done) | (go_simp; rfl)); intro gb346 hg w35 hbox hb; have n0_ := Aside0.mk (Kd.R_below (Kd.R_elderB (by (with_reducible repeat (first | apply Kd.R_alloc | apply Kd.R_drewN | apply Kd.R_drew)); exact HO_6.out) gb346 (Nat.le_of_eq hg.symm)) hb); have n1_ := Aside0.mk (blk_below (g := gb313) (o := .cells #[.int .i64 a1_0, .int .i64 a1_1, .int .i64 a1_2, .int .i64 a1_3] 39 (0, 0)) (by (with_reducible repeat (first | refine blk_drewN ?_ _ | refine blk_drew ?_ | refine blk_alloc ?_ _)); exact BK313.out) hb); have n2_ := Aside0.mk (blk_below (g := gb338) (o := .cells #[.int .i64 t331, .int .i64 t332, .int .i64 t333, .int .i64 t334, .int .i64 t335, .int .i64 t336] 41 (0, 0)) (by (with_reducible repeat (first | refine blk_drewN ?_ _ | refine blk_drew ?_ | refine blk_alloc ?_ _)); exact BK338.out) hb); have n3_ := Aside0.mk (below_step (by repeat (first | (with_reducible first | exact HB.out | apply below_alloc | apply pw_below_drewN | apply below_drew1 | refine below_set ?_ GE313.out | refine below_set ?_ GE338.out) | exact HB.out)) hb); have n4_ := Aside0.mk (hbox); have n5_ := Aside0.mk ((by rw [hg]; exact (below_size (by repeat (first | (with_reducible first | exact HB.out | apply below_alloc | apply pw_below_drewN | apply below_drew1 | refine below_set ?_ GE313.out | refine below_set ?_ GE338.out) | exact HB.out))) : w.heap.size ≤ gb346)); have n6_ := Aside0.mk ((by rw [hg]; exact (below_size (by repeat (first | (with_reducible first | exact HB.out | apply below_alloc | apply pw_below_drewN | apply below_drew1 | refine below_set ?_ GE313.out | refine below_set ?_ GE338.out) | exact HB.out))) : w.heap.size ≤ gb346)); have n7_ := Aside0.mk ((by rw [hg]; exact Nat.ne_of_lt (blk_lt (g := gb313) (o := .cells #[.int .i64 a1_0, .int .i64 a1_1, .int .i64 a1_2, .int .i64 a1_3] 39 (0, 0)) (by (with_reducible repeat (first | refine blk_drewN ?_ _ | refine blk_drew ?_ | refine blk_alloc ?_ _)); exact BK313.out)) : gb313 ≠ gb346)); have n8_ := Aside0.mk ((by rw [hg]; exact Nat.ne_of_gt (blk_lt (g := gb313) (o := .cells #[.int .i64 a1_0, .int .i64 a1_1, .int .i64 a1_2, .int .i64 a1_3] 39 (0, 0)) (by (with_reducible repeat (first | refine blk_drewN ?_ _ | refine blk_drew ?_ | refine blk_alloc ?_ _)); exact BK313.out)) : gb346 ≠ gb313)); have n9_ := Aside0.mk ((by rw [hg]; exact Nat.ne_of_lt (blk_lt (g := gb338) (o := .cells #[.int .i64 t331, .int .i64 t332, .int .i64 t333, .int .i64 t334, .int .i64 t335, .int .i64 t336] 41 (0, 0)) (by (with_reducible repeat (first | refine blk_drewN ?_ _ | refine blk_drew ?_ | refine blk_alloc ?_ _)); exact BK338.out)) : gb338 ≠ gb346)); have n10_ := Aside0.mk ((by rw [hg]; exact Nat.ne_of_gt (blk_lt (g := gb338) (o := .cells #[.int .i64 t331, .int .i64 t332, .int .i64 t333, .int .i64 t334, .int .i64 t335, .int .i64 t336] 41 (0, 0)) (by (with_reducible repeat (first | refine blk_drewN ?_ _ | refine blk_drew ?_ | refine blk_alloc ?_ _)); exact BK338.out)) : gb346 ≠ gb338)); clear HO_6; clear BK313; clear BK338; clear HB; have HO_6 := n0_; have BK313 := n1_; have BK338 := n2_; have HB := n3_; have BK346 := n4_; have GW346 := n5_; have GE346 := n6_; have NB313_346 := n7_; have NB346_313 := n8_; have NB338_346 := n9_; have NB346_338 := n10_; clear n0_ n1_ n2_ n3_ n4_ n5_ n6_ n7_ n8_ n9_ n10_; clear hb hbox hg; have hnb36 := NB346_313.out; have hnc36 := NB313_346.out; have hnb37 := NB346_338.out; have hnc37 := NB338_346.out; have hcz38_0 : w35.cell? ⟨gb346, 0, none⟩ = some (.int .i64 0) := (blk_cell BK346.out 0).trans rfl; have hcz38_1 : w35.cell? ⟨gb346, 1, none⟩ = some (.int .i64 0) := (blk_cell BK346.out 1).trans rfl; have hcz38_2 : w35.cell? ⟨gb346, 2, none⟩ = some (.int .i64 0) := (blk_cell BK346.out 2).trans rfl; have hcz38_3 : w35.cell? ⟨gb346, 3, none⟩ = some (.int .i64 0) := (blk_cell BK346.out 3).trans rfl; have hcz38_4 : w35.cell? ⟨gb346, 4, none⟩ = some (.int .i64 0) := (blk_cell BK346.out 4).trans rfl; have hcz38_5 : w35.cell? ⟨gb346, 5, none⟩ = some (.int .i64 0) := (blk_cell BK346.out 5).trans rfl; have hfz38_0 := blk_frozen BK346.out 0; have hfz38_1 := blk_frozen BK346.out 1; have hfz38_2 := blk_frozen BK346.out 2; have hfz38_3 := blk_frozen BK346.out 3; have hfz38_4 := blk_frozen BK346.out 4; have hfz38_5 := blk_frozen BK346.out 5; have hcz39_0 : w35.cell? ⟨gb313, 0, none⟩ = some (.int .i64 a1_0) := (blk_cell BK313.out 0).trans rfl; have hcz39_1 : w35.cell? ⟨gb313, 1, none⟩ = some (.int .i64 a1_1) := (blk_cell BK313.out 1).trans rfl; have hcz39_2 : w35.cell? ⟨gb313, 2, none⟩ = some (.int .i64 a1_2) := (blk_cell BK313.out 2).trans rfl; have hcz39_3 : w35.cell? ⟨gb313, 3, none⟩ = some (.int .i64 a1_3) := (blk_cell BK313.out 3).trans rfl; have hfz39_0 := blk_frozen BK313.out 0; have hfz39_1 := blk_frozen BK313.out 1; have hfz39_2 := blk_frozen BK313.out 2; have hfz39_3 := blk_frozen BK313.out 3) | ((with_reducible refine gate_callee (f := 40) rfl ?_); refine goesL_ (some 71) rfl rfl Try.func40 (by kernel_rfl) rfl #[.slice Ao28 x6_1.length co28, .int .i64 a1_1, .int .i64 a1_2, .int .i64 a1_3] rfl (by (try simp only [List.map_toArray, List.map_cons, List.map_nil]); first | done | rfl | (simp only [List.length_drop, List.length_take]; rfl)) ?_; (with_reducible refine (region_Gap.calls kj5 _ _ x6_1 a1_1 a1_2 a1_3 t347 t348 _ ?side1 ?side2 A22.out).mono ?_); (case side1 => refine (Kd.R_reads' (e := 41) (base := w.heap.size) (ok := fun k_ => ((True ∧ k_ ≠ gb338) ∧ k_ ≠ gb346)) (n := x6_1.length) (c := co28) ?_).2.2; exact (by (with_reducible repeat (first | apply Kd.R_alloc | apply Kd.R_drewN | apply Kd.R_drew)); exact (Kd.R_mono (Kd.R_far (p := ⟨gb346, 5, none⟩) (Kd.R_far (p := ⟨gb346, 4, none⟩) (Kd.R_far (p := ⟨gb346, 3, none⟩) (Kd.R_far (p := ⟨gb346, 2, none⟩) (Kd.R_far (p := ⟨gb346, 1, none⟩) (Kd.R_far (p := ⟨gb346, 0, none⟩) (Kd.R_mono HO_6.out (fun k_ hk => (⟨hk, hk.2⟩ : _ ∧ k_ ≠ gb346))) (fun _ hk => hk.2) (.int .i64 t339)) (fun _ hk => hk.2) (.int .i64 t340)) (fun _ hk => hk.2) (.int .i64 t341)) (fun _ hk => hk.2) (.int .i64 t342)) (fun _ hk => hk.2) (.int .i64 t343)) (fun _ hk => hk.2) (.int .i64 t344)) (fun _ h_ => h_.1)))); (case side2 => exact (Kd.R_reads' HO_6.out).2.1); rintro e w40 ⟨rfl, hb⟩; refine ⟨_, rfl, ?_⟩; have n0_ := Aside0.mk (Kd.R_below (by (with_reducible repeat (first | apply Kd.R_alloc | apply Kd.R_drewN | apply Kd.R_drew)); exact (Kd.R_mono (Kd.R_far (p := ⟨gb346, 5, none⟩) (Kd.R_far (p := ⟨gb346, 4, none⟩) (Kd.R_far (p := ⟨gb346, 3, none⟩) (Kd.R_far (p := ⟨gb346, 2, none⟩) (Kd.R_far (p := ⟨gb346, 1, none⟩) (Kd.R_far (p := ⟨gb346, 0, none⟩) (Kd.R_mono HO_6.out (fun k_ hk => (⟨hk, hk.2⟩ : _ ∧ k_ ≠ gb346))) (fun _ hk => hk.2) (.int .i64 t339)) (fun _ hk => hk.2) (.int .i64 t340)) (fun _ hk => hk.2) (.int .i64 t341)) (fun _ hk => hk.2) (.int .i64 t342)) (fun _ hk => hk.2) (.int .i64 t343)) (fun _ hk => hk.2) (.int .i64 t344)) (fun _ h_ => h_.1))) hb); have n1_ := Aside0.mk (blk_below (g := gb313) (o := .cells #[.int .i64 a1_0, .int .i64 a1_1, .int .i64 a1_2, .int .i64 a1_3] 39 (0, 0)) (by (with_reducible repeat (first | refine blk_drewN ?_ _ | refine blk_drew ?_ | refine blk_alloc ?_ _)); refine blk_far ?_ NB313_346.out _; (with_reducible repeat (first | refine blk_drewN ?_ _ | refine blk_drew ?_ | refine blk_alloc ?_ _)); refine blk_far ?_ NB313_346.out _; (with_reducible repeat (first | refine blk_drewN ?_ _ | refine blk_drew ?_ | refine blk_alloc ?_ _)); refine blk_far ?_ NB313_346.out _; (with_reducible repeat (first | refine blk_drewN ?_ _ | refine blk_drew ?_ | refine blk_alloc ?_ _)); refine blk_far ?_ NB313_346.out _; (with_reducible repeat (first | refine blk_drewN ?_ _ | refine blk_drew ?_ | refine blk_alloc ?_ _)); refine blk_far ?_ NB313_346.out _; (with_reducible repeat (first | refine blk_drewN ?_ _ | refine blk_drew ?_ | refine blk_alloc ?_ _)); refine blk_far ?_ NB313_346.out _; (with_reducible repeat (first | refine blk_drewN ?_ _ | refine blk_drew ?_ | refine blk_alloc ?_ _)); exact BK313.out) hb); have n2_ := Aside0.mk (blk_below (g := gb338) (o := .cells #[.int .i64 t331, .int .i64 t332, .int .i64 t333, .int .i64 t334, .int .i64 t335, .int .i64 t336] 41 (0, 0)) (by (with_reducible repeat (first | refine blk_drewN ?_ _ | refine blk_drew ?_ | refine blk_alloc ?_ _)); refine blk_far ?_ NB338_346.out _; (with_reducible repeat (first | refine blk_drewN ?_ _ | refine blk_drew ?_ | refine blk_alloc ?_ _)); refine blk_far ?_ NB338_346.out _; (with_reducible repeat (first | refine blk_drewN ?_ _ | refine blk_drew ?_ | refine blk_alloc ?_ _)); refine blk_far ?_ NB338_346.out _; (with_reducible repeat (first | refine blk_drewN ?_ _ | refine blk_drew ?_ | refine blk_alloc ?_ _)); refine blk_far ?_ NB338_346.out _; (with_reducible repeat (first | refine blk_drewN ?_ _ | refine blk_drew ?_ | refine blk_alloc ?_ _)); refine blk_far ?_ NB338_346.out _; (with_reducible repeat (first | refine blk_drewN ?_ _ | refine blk_drew ?_ | refine blk_alloc ?_ _)); refine blk_far ?_ NB338_346.out _; (with_reducible repeat (first | refine blk_drewN ?_ _ | refine blk_drew ?_ | refine blk_alloc ?_ _)); exact BK338.out) hb); have n3_ := Aside0.mk (blk_below (g := gb346) (o := .cells #[.int .i64 t339, .int .i64 t340, .int .i64 t341, .int .i64 t342, .int .i64 t343, .int .i64 t344] 41 (0, 0)) (by (with_reducible repeat (first | refine blk_drewN ?_ _ | refine blk_drew ?_ | refine blk_alloc ?_ _)); refine blk_put (cs := #[.int .i64 t339, .int .i64 t340, .int .i64 t341, .int .i64 t342, .int .i64 t343, .int .i64 0]) ?_ 5 _ rfl; (with_reducible repeat (first | refine blk_drewN ?_ _ | refine blk_drew ?_ | refine blk_alloc ?_ _)); refine blk_put (cs := #[.int .i64 t339, .int .i64 t340, .int .i64 t341, .int .i64 t342, .int .i64 0, .int .i64 0]) ?_ 4 _ rfl; (with_reducible repeat (first | refine blk_drewN ?_ _ | refine blk_drew ?_ | refine blk_alloc ?_ _)); refine blk_put (cs := #[.int .i64 t339, .int .i64 t340, .int .i64 t341, .int .i64 0, .int .i64 0, .int .i64 0]) ?_ 3 _ rfl; (with_reducible repeat (first | refine blk_drewN ?_ _ | refine blk_drew ?_ | refine blk_alloc ?_ _)); refine blk_put (cs := #[.int .i64 t339, .int .i64 t340, .int .i64 0, .int .i64 0, .int .i64 0, .int .i64 0]) ?_ 2 _ rfl; (with_reducible repeat (first | refine blk_drewN ?_ _ | refine blk_drew ?_ | refine blk_alloc ?_ _)); refine blk_put (cs := #[.int .i64 t339, .int .i64 0, .int .i64 0, .int .i64 0, .int .i64 0, .int .i64 0]) ?_ 1 _ rfl; (with_reducible repeat (first | refine blk_drewN ?_ _ | refine blk_drew ?_ | refine blk_alloc ?_ _)); refine blk_put (cs := #[.int .i64 0, .int .i64 0, .int .i64 0, .int .i64 0, .int .i64 0, .int .i64 0]) ?_ 0 _ rfl; (with_reducible repeat (first | refine blk_drewN ?_ _ | refine blk_drew ?_ | refine blk_alloc ?_ _)); exact BK346.out) hb); have n4_ := Aside0.mk (below_step (by repeat (first | (with_reducible first | exact HB.out | apply below_alloc | apply pw_below_drewN | apply below_drew1 | refine below_set ?_ GE313.out | refine below_set ?_ GE338.out | refine below_set ?_ GE346.out) | exact HB.out)) hb); clear HO_6; clear BK313; clear BK338; clear BK346; clear HB; have HO_6 := n0_; have BK313 := n1_; have BK338 := n2_; have BK346 := n3_; have HB := n4_; clear n0_ n1_ n2_ n3_ n4_; (try clear hb); (try clear hb2); (try clear hk); (try clear hi); have hcz41_0 : w40.cell? ⟨gb313, 0, none⟩ = some (.int .i64 a1_0) := (blk_cell BK313.out 0).trans rfl; have hcz41_1 : w40.cell? ⟨gb313, 1, none⟩ = some (.int .i64 a1_1) := (blk_cell BK313.out 1).trans rfl; have hcz41_2 : w40.cell? ⟨gb313, 2, none⟩ = some (.int .i64 a1_2) := (blk_cell BK313.out 2).trans rfl; have hcz41_3 : w40.cell? ⟨gb313, 3, none⟩ = some (.int .i64 a1_3) := (blk_cell BK313.out 3).trans rfl; have hfz41_0 := blk_frozen BK313.out 0; have hfz41_1 := blk_frozen BK313.out 1; have hfz41_2 := blk_frozen BK313.out 2; have hfz41_3 := blk_frozen BK313.out 3) | ((with_reducible refine gate_callee (f := 42) rfl ?_); refine goesL_ (some 82) rfl rfl Try.func42 (by kernel_rfl) rfl #[.slice Ao28 x6_1.length co28, .int .i64 a1_1, .int .i64 a1_2, .int .i64 a1_3] rfl (by (try simp only [List.map_toArray, List.map_cons, List.map_nil]); first | done | rfl | (simp only [List.length_drop, List.length_take]; rfl)) ?_; (with_reducible refine (flyleafref15_Gap.calls kj5 _ _ x6_1 a1_1 a1_2 a1_3 t349 t350 _ ?side1 ?side2 A23.out).mono ?_); (case side1 => repeat (first | exact (Kd.R_reads' HO_6.out).2.2 | (with_reducible refine Kd.C_alloc ?_ _) | (with_reducible refine Kd.C_drewN ?_ _) | (with_reducible refine Kd.C_drew ?_))); (case side2 => exact (Kd.R_reads' HO_6.out).2.1); rintro e w42 ⟨rfl, hb⟩; refine ⟨_, rfl, ?_⟩; have n0_ := Aside0.mk (Kd.R_below (by (with_reducible repeat (first | apply Kd.R_alloc | apply Kd.R_drewN | apply Kd.R_drew)); exact HO_6.out) hb); have n1_ := Aside0.mk (blk_below (g := gb313) (o := .cells #[.int .i64 a1_0, .int .i64 a1_1, .int .i64 a1_2, .int .i64 a1_3] 39 (0, 0)) (by (with_reducible repeat (first | refine blk_drewN ?_ _ | refine blk_drew ?_ | refine blk_alloc ?_ _)); exact BK313.out) hb); have n2_ := Aside0.mk (blk_below (g := gb338) (o := .cells #[.int .i64 t331, .int .i64 t332, .int .i64 t333, .int .i64 t334, .int .i64 t335, .int .i64 t336] 41 (0, 0)) (by (with_reducible repeat (first | refine blk_drewN ?_ _ | refine blk_drew ?_ | refine blk_alloc ?_ _)); exact BK338.out) hb); have n3_ := Aside0.mk (blk_below (g := gb346) (o := .cells #[.int .i64 t339, .int .i64 t340, .int .i64 t341, .int .i64 t342, .int .i64 t343, .int .i64 t344] 41 (0, 0)) (by (with_reducible repeat (first | refine blk_drewN ?_ _ | refine blk_drew ?_ | refine blk_alloc ?_ _)); exact BK346.out) hb); have n4_ := Aside0.mk (below_step (by repeat (first | (with_reducible first | exact HB.out | apply below_alloc | apply pw_below_drewN | apply below_drew1 | refine below_set ?_ GE313.out | refine below_set ?_ GE338.out | refine below_set ?_ GE346.out) | exact HB.out)) hb); clear HO_6; clear BK313; clear BK338; clear BK346; clear HB; have HO_6 := n0_; have BK313 := n1_; have BK338 := n2_; have BK346 := n3_; have HB := n4_; clear n0_ n1_ n2_ n3_ n4_; (try clear hb); (try clear hb2); (try clear hk); (try clear hi); have hcz43_0 : w42.cell? ⟨gb338, 0, none⟩ = some (.int .i64 t331) := (blk_cell BK338.out 0).trans rfl; have hcz43_1 : w42.cell? ⟨gb338, 1, none⟩ = some (.int .i64 t332) := (blk_cell BK338.out 1).trans rfl; have hcz43_2 : w42.cell? ⟨gb338, 2, none⟩ = some (.int .i64 t333) := (blk_cell BK338.out 2).trans rfl; have hcz43_3 : w42.cell? ⟨gb338, 3, none⟩ = some (.int .i64 t334) := (blk_cell BK338.out 3).trans rfl; have hcz43_4 : w42.cell? ⟨gb338, 4, none⟩ = some (.int .i64 t335) := (blk_cell BK338.out 4).trans rfl; have hcz43_5 : w42.cell? ⟨gb338, 5, none⟩ = some (.int .i64 t336) := (blk_cell BK338.out 5).trans rfl; have hfz43_0 := blk_frozen BK338.out 0; have hfz43_1 := blk_frozen BK338.out 1; have hfz43_2 := blk_frozen BK338.out 2; have hfz43_3 := blk_frozen BK338.out 3; have hfz43_4 := blk_frozen BK338.out 4; have hfz43_5 := blk_frozen BK338.out 5; have hcz44_0 : w42.cell? ⟨gb313, 0, none⟩ = some (.int .i64 a1_0) := (blk_cell BK313.out 0).trans rfl; have hcz44_1 : w42.cell? ⟨gb313, 1, none⟩ = some (.int .i64 a1_1) := (blk_cell BK313.out 1).trans rfl; have hcz44_2 : w42.cell? ⟨gb313, 2, none⟩ = some (.int .i64 a1_2) := (blk_cell BK313.out 2).trans rfl; have hcz44_3 : w42.cell? ⟨gb313, 3, none⟩ = some (.int .i64 a1_3) := (blk_cell BK313.out 3).trans rfl; have hfz44_0 := blk_frozen BK313.out 0; have hfz44_1 := blk_frozen BK313.out 1; have hfz44_2 := blk_frozen BK313.out 2; have hfz44_3 := blk_frozen BK313.out 3) | ((with_reducible refine gate_callee (f := 38) rfl ?_); refine goesL_ (some 89) rfl rfl Try.func38 (by kernel_rfl) rfl #[.agg #[.int .i64 t331, .int .i64 t332, .int .i64 t333, .int .i64 t334, .int .i64 t335, .int .i64 t336], .int .i64 a1_0] rfl (by (try simp only [List.map_toArray, List.map_cons, List.map_nil]); first | done | rfl | (simp only [List.length_drop, List.length_take]; rfl)) ?_; (with_reducible refine (region_Key.calls t331 t332 t333 t334 t335 t336 a1_0 t351 t352 t353 _ A24.out).mono ?_); rintro e w45 ⟨rfl, hb⟩; refine ⟨_, rfl, ?_⟩; have n0_ := Aside0.mk (Kd.R_below (by (with_reducible repeat (first | apply Kd.R_alloc | apply Kd.R_drewN | apply Kd.R_drew)); exact HO_6.out) hb); have n1_ := Aside0.mk (blk_below (g := gb313) (o := .cells #[.int .i64 a1_0, .int .i64 a1_1, .int .i64 a1_2, .int .i64 a1_3] 39 (0, 0)) (by (with_reducible repeat (first | refine blk_drewN ?_ _ | refine blk_drew ?_ | refine blk_alloc ?_ _)); exact BK313.out) hb); have n2_ := Aside0.mk (blk_below (g := gb338) (o := .cells #[.int .i64 t331, .int .i64 t332, .int .i64 t333, .int .i64 t334, .int .i64 t335, .int .i64 t336] 41 (0, 0)) (by (with_reducible repeat (first | refine blk_drewN ?_ _ | refine blk_drew ?_ | refine blk_alloc ?_ _)); exact BK338.out) hb); have n3_ := Aside0.mk (blk_below (g := gb346) (o := .cells #[.int .i64 t339, .int .i64 t340, .int .i64 t341, .int .i64 t342, .int .i64 t343, .int .i64 t344] 41 (0, 0)) (by (with_reducible repeat (first | refine blk_drewN ?_ _ | refine blk_drew ?_ | refine blk_alloc ?_ _)); exact BK346.out) hb); have n4_ := Aside0.mk (below_step (by repeat (first | (with_reducible first | exact HB.out | apply below_alloc | apply pw_below_drewN | apply below_drew1 | refine below_set ?_ GE313.out | refine below_set ?_ GE338.out | refine below_set ?_ GE346.out) | exact HB.out)) hb); clear HO_6; clear BK313; clear BK338; clear BK346; clear HB; have HO_6 := n0_; have BK313 := n1_; have BK338 := n2_; have BK346 := n3_; have HB := n4_; clear n0_ n1_ n2_ n3_ n4_; (try clear hb); (try clear hb2); (try clear hk); (try clear hi)) | ((with_reducible refine gate_dst (N := 18) rfl ?_); refine box_event ?hg (N := 18) ?hd (cs := #[.int .i64 0, .int .i64 0]) (t := 77) ?hr ?_; (case hd => rfl); (case hg => rfl); (case hr => first | (go_simp; done) | (go_simp; rfl)); intro gb354 hg w46 hbox hb; have n0_ := Aside0.mk (Kd.R_below (by (with_reducible repeat (first | apply Kd.R_alloc | apply Kd.R_drewN | apply Kd.R_drew)); exact HO_6.out) hb); have n1_ := Aside0.mk (blk_below (g := gb313) (o := .cells #[.int .i64 a1_0, .int .i64 a1_1, .int .i64 a1_2, .int .i64 a1_3] 39 (0, 0)) (by (with_reducible repeat (first | refine blk_drewN ?_ _ | refine blk_drew ?_ | refine blk_alloc ?_ _)); exact BK313.out) hb); have n2_ := Aside0.mk (blk_below (g := gb338) (o := .cells #[.int .i64 t331, .int .i64 t332, .int .i64 t333, .int .i64 t334, .int .i64 t335, .int .i64 t336] 41 (0, 0)) (by (with_reducible repeat (first | refine blk_drewN ?_ _ | refine blk_drew ?_ | refine blk_alloc ?_ _)); exact BK338.out) hb); have n3_ := Aside0.mk (blk_below (g := gb346) (o := .cells #[.int .i64 t339, .int .i64 t340, .int .i64 t341, .int .i64 t342, .int .i64 t343, .int .i64 t344] 41 (0, 0)) (by (with_reducible repeat (first | refine blk_drewN ?_ _ | refine blk_drew ?_ | refine blk_alloc ?_ _)); exact BK346.out) hb); have n4_ := Aside0.mk (below_step (by repeat (first | (with_reducible first | exact HB.out | apply below_alloc | apply pw_below_drewN | apply below_drew1 | refine below_set ?_ GE313.out | refine below_set ?_ GE338.out | refine below_set ?_ GE346.out) | exact HB.out)) hb); have n5_ := Aside0.mk (hbox); have n6_ := Aside0.mk ((by rw [hg]; exact (below_size (by repeat (first | (with_reducible first | exact HB.out | apply below_alloc | apply pw_below_drewN | apply below_drew1 | refine below_set ?_ GE313.out | refine below_set ?_ GE338.out | refine below_set ?_ GE346.out) | exact HB.out))) : w.heap.size ≤ gb354)); have n7_ := Aside0.mk ((by rw [hg]; exact (below_size (by repeat (first | (with_reducible first | exact HB.out | apply below_alloc | apply pw_below_drewN | apply below_drew1 | refine below_set ?_ GE313.out | refine below_set ?_ GE338.out | refine below_set ?_ GE346.out) | exact HB.out))) : w.heap.size ≤ gb354)); have n8_ := Aside0.mk ((by rw [hg]; exact Nat.ne_of_lt (blk_lt (g := gb313) (o := .cells #[.int .i64 a1_0, .int .i64 a1_1, .int .i64 a1_2, .int .i64 a1_3] 39 (0, 0)) (by (with_reducible repeat (first | refine blk_drewN ?_ _ | refine blk_drew ?_ | refine blk_alloc ?_ _)); exact BK313.out)) : gb313 ≠ gb354)); have n9_ := Aside0.mk ((by rw [hg]; exact Nat.ne_of_gt (blk_lt (g := gb313) (o := .cells #[.int .i64 a1_0, .int .i64 a1_1, .int .i64 a1_2, .int .i64 a1_3] 39 (0, 0)) (by (with_reducible repeat (first | refine blk_drewN ?_ _ | refine blk_drew ?_ | refine blk_alloc ?_ _)); exact BK313.out)) : gb354 ≠ gb313)); have n10_ := Aside0.mk ((by rw [hg]; exact Nat.ne_of_lt (blk_lt (g := gb338) (o := .cells #[.int .i64 t331, .int .i64 t332, .int .i64 t333, .int .i64 t334, .int .i64 t335, .int .i64 t336] 41 (0, 0)) (by (with_reducible repeat (first | refine blk_drewN ?_ _ | refine blk_drew ?_ | refine blk_alloc ?_ _)); exact BK338.out)) : gb338 ≠ gb354)); have n11_ := Aside0.mk ((by rw [hg]; exact Nat.ne_of_gt (blk_lt (g := gb338) (o := .cells #[.int .i64 t331, .int .i64 t332, .int .i64 t333, .int .i64 t334, .int .i64 t335, .int .i64 t336] 41 (0, 0)) (by (with_reducible repeat (first | refine blk_drewN ?_ _ | refine blk_drew ?_ | refine blk_alloc ?_ _)); exact BK338.out)) : gb354 ≠ gb338)); have n12_ := Aside0.mk ((by rw [hg]; exact Nat.ne_of_lt (blk_lt (g := gb346) (o := .cells #[.int .i64 t339, .int .i64 t340, .int .i64 t341, .int .i64 t342, .int .i64 t343, .int .i64 t344] 41 (0, 0)) (by (with_reducible repeat (first | refine blk_drewN ?_ _ | refine blk_drew ?_ | refine blk_alloc ?_ _)); exact BK346.out)) : gb346 ≠ gb354)); have n13_ := Aside0.mk ((by rw [hg]; exact Nat.ne_of_gt (blk_lt (g := gb346) (o := .cells #[.int .i64 t339, .int .i64 t340, .int .i64 t341, .int .i64 t342, .int .i64 t343, .int .i64 t344] 41 (0, 0)) (by (with_reducible repeat (first | refine blk_drewN ?_ _ | refine blk_drew ?_ | refine blk_alloc ?_ _)); exact BK346.out)) : gb354 ≠ gb346)); clear HO_6; clear BK313; clear BK338; clear BK346; clear HB; have HO_6 := n0_; have BK313 := n1_; have BK338 := n2_; have BK346 := n3_; have HB := n4_; have BK354 := n5_; have GW354 := n6_; have GE354 := n7_; have NB313_354 := n8_; have NB354_313 := n9_; have NB338_354 := n10_; have NB354_338 := n11_; have NB346_354 := n12_; have NB354_346 := n13_; clear n0_ n1_ n2_ n3_ n4_ n5_ n6_ n7_ n8_ n9_ n10_ n11_ n12_ n13_; clear hb hbox hg; have hnb47 := NB354_313.out; have hnc47 := NB313_354.out; have hnb48 := NB354_338.out; have hnc48 := NB338_354.out; have hnb49 := NB354_346.out; have hnc49 := NB346_354.out; have hcz50_0 : w46.cell? ⟨gb354, 0, none⟩ = some (.int .i64 0) := (blk_cell BK354.out 0).trans rfl; have hcz50_1 : w46.cell? ⟨gb354, 1, none⟩ = some (.int .i64 0) := (blk_cell BK354.out 1).trans rfl; have hfz50_0 := blk_frozen BK354.out 0; have hfz50_1 := blk_frozen BK354.out 1; have hcz51_0 : w46.cell? ⟨gb346, 0, none⟩ = some (.int .i64 t339) := (blk_cell BK346.out 0).trans rfl; have hcz51_1 : w46.cell? ⟨gb346, 1, none⟩ = some (.int .i64 t340) := (blk_cell BK346.out 1).trans rfl; have hcz51_2 : w46.cell? ⟨gb346, 2, none⟩ = some (.int .i64 t341) := (blk_cell BK346.out 2).trans rfl; have hcz51_3 : w46.cell? ⟨gb346, 3, none⟩ = some (.int .i64 t342) := (blk_cell BK346.out 3).trans rfl; have hcz51_4 : w46.cell? ⟨gb346, 4, none⟩ = some (.int .i64 t343) := (blk_cell BK346.out 4).trans rfl; have hcz51_5 : w46.cell? ⟨gb346, 5, none⟩ = some (.int .i64 t344) := (blk_cell BK346.out 5).trans rfl; have hfz51_0 := blk_frozen BK346.out 0; have hfz51_1 := blk_frozen BK346.out 1; have hfz51_2 := blk_frozen BK346.out 2; have hfz51_3 := blk_frozen BK346.out 3; have hfz51_4 := blk_frozen BK346.out 4; have hfz51_5 := blk_frozen BK346.out 5; have hcz52_0 : w46.cell? ⟨gb313, 0, none⟩ = some (.int .i64 a1_0) := (blk_cell BK313.out 0).trans rfl; have hcz52_1 : w46.cell? ⟨gb313, 1, none⟩ = some (.int .i64 a1_1) := (blk_cell BK313.out 1).trans rfl; have hcz52_2 : w46.cell? ⟨gb313, 2, none⟩ = some (.int .i64 a1_2) := (blk_cell BK313.out 2).trans rfl; have hcz52_3 : w46.cell? ⟨gb313, 3, none⟩ = some (.int .i64 a1_3) := (blk_cell BK313.out 3).trans rfl; have hfz52_0 := blk_frozen BK313.out 0; have hfz52_1 := blk_frozen BK313.out 1; have hfz52_2 := blk_frozen BK313.out 2; have hfz52_3 := blk_frozen BK313.out 3) | ((with_reducible refine gate_callee (f := 43) rfl ?_); refine goesL_ (some 96) rfl rfl Try.func43 (by kernel_rfl) rfl #[.agg #[.int .i64 t339, .int .i64 t340, .int .i64 t341, .int .i64 t342, .int .i64 t343, .int .i64 t344], .int .i64 a1_0] rfl (by (try simp only [List.map_toArray, List.map_cons, List.map_nil]); first | done | rfl | (simp only [List.length_drop, List.length_take]; rfl)) ?_; (with_reducible refine (flyleafref15_Key.calls t339 t340 t341 t342 t343 t344 a1_0 t355 t356 t357 _ A25.out).mono ?_); rintro e w53 ⟨rfl, hb⟩; refine ⟨_, rfl, ?_⟩; have n0_ := Aside0.mk (Kd.R_below (by (with_reducible repeat (first | apply Kd.R_alloc | apply Kd.R_drewN | apply Kd.R_drew)); exact (Kd.R_mono (Kd.R_far (p := ⟨gb354, 1, none⟩) (Kd.R_far (p := ⟨gb354, 0, none⟩) (Kd.R_types HO_6.out BK354.out (by decide)) (fun _ hk => hk.2) (.int .i64 t351)) (fun _ hk => hk.2) (.int .i64 t352)) (fun _ h_ => h_.1))) hb); have n1_ := Aside0.mk (blk_below (g := gb313) (o := .cells #[.int .i64 a1_0, .int .i64 a1_1, .int .i64 a1_2, .int .i64 a1_3] 39 (0, 0)) (by (with_reducible repeat (first | refine blk_drewN ?_ _ | refine blk_drew ?_ | refine blk_alloc ?_ _)); refine blk_far ?_ NB313_354.out _; (with_reducible repeat (first | refine blk_drewN ?_ _ | refine blk_drew ?_ | refine blk_alloc ?_ _)); refine blk_far ?_ NB313_354.out _; (with_reducible repeat (first | refine blk_drewN ?_ _ | refine blk_drew ?_ | refine blk_alloc ?_ _)); exact BK313.out) hb); have n2_ := Aside0.mk (blk_below (g := gb338) (o := .cells #[.int .i64 t331, .int .i64 t332, .int .i64 t333, .int .i64 t334, .int .i64 t335, .int .i64 t336] 41 (0, 0)) (by (with_reducible repeat (first | refine blk_drewN ?_ _ | refine blk_drew ?_ | refine blk_alloc ?_ _)); refine blk_far ?_ NB338_354.out _; (with_reducible repeat (first | refine blk_drewN ?_ _ | refine blk_drew ?_ | refine blk_alloc ?_ _)); refine blk_far ?_ NB338_354.out _; (with_reducible repeat (first | refine blk_drewN ?_ _ | refine blk_drew ?_ | refine blk_alloc ?_ _)); exact BK338.out) hb); have n3_ := Aside0.mk (blk_below (g := gb346) (o := .cells #[.int .i64 t339, .int .i64 t340, .int .i64 t341, .int .i64 t342, .int .i64 t343, .int .i64 t344] 41 (0, 0)) (by (with_reducible repeat (first | refine blk_drewN ?_ _ | refine blk_drew ?_ | refine blk_alloc ?_ _)); refine blk_far ?_ NB346_354.out _; (with_reducible repeat (first | refine blk_drewN ?_ _ | refine blk_drew ?_ | refine blk_alloc ?_ _)); refine blk_far ?_ NB346_354.out _; (with_reducible repeat (first | refine blk_drewN ?_ _ | refine blk_drew ?_ | refine blk_alloc ?_ _)); exact BK346.out) hb); have n4_ := Aside0.mk (blk_below (g := gb354) (o := .cells #[.int .i64 t351, .int .i64 t352] 77 (0, 0)) (by (with_reducible repeat (first | refine blk_drewN ?_ _ | refine blk_drew ?_ | refine blk_alloc ?_ _)); refine blk_put (cs := #[.int .i64 t351, .int .i64 0]) ?_ 1 _ rfl; (with_reducible repeat (first | refine blk_drewN ?_ _ | refine blk_drew ?_ | refine blk_alloc ?_ _)); refine blk_put (cs := #[.int .i64 0, .int .i64 0]) ?_ 0 _ rfl; (with_reducible repeat (first | refine blk_drewN ?_ _ | refine blk_drew ?_ | refine blk_alloc ?_ _)); exact BK354.out) hb); have n5_ := Aside0.mk (below_step (by repeat (first | (with_reducible first | exact HB.out | apply below_alloc | apply pw_below_drewN | apply below_drew1 | refine below_set ?_ GE313.out | refine below_set ?_ GE338.out | refine below_set ?_ GE346.out | refine below_set ?_ GE354.out) | exact HB.out)) hb); clear HO_6; clear BK313; clear BK338; clear BK346; clear BK354; clear HB; have HO_6 := n0_; have BK313 := n1_; have BK338 := n2_; have BK346 := n3_; have BK354 := n4_; have HB := n5_; clear n0_ n1_ n2_ n3_ n4_ n5_; (try clear hb); (try clear hb2); (try clear hk); (try clear hi)) | ((with_reducible refine gate_dst (N := 20) rfl ?_); refine box_event ?hg (N := 20) ?hd (cs := #[.int .i64 0, .int .i64 0]) (t := 77) ?hr ?_; (case hd => rfl); (case hg => rfl); (case hr => first | (go_simp; done) | (go_simp; rfl)); intro gb358 hg w54 hbox hb; have n0_ := Aside0.mk (Kd.R_below (by (with_reducible repeat (first | apply Kd.R_alloc | apply Kd.R_drewN | apply Kd.R_drew)); exact HO_6.out) hb); have n1_ := Aside0.mk (blk_below (g := gb313) (o := .cells #[.int .i64 a1_0, .int .i64 a1_1, .int .i64 a1_2, .int .i64 a1_3] 39 (0, 0)) (by (with_reducible repeat (first | refine blk_drewN ?_ _ | refine blk_drew ?_ | refine blk_alloc ?_ _)); exact BK313.out) hb); have n2_ := Aside0.mk (blk_below (g := gb338) (o := .cells #[.int .i64 t331, .int .i64 t332, .int .i64 t333, .int .i64 t334, .int .i64 t335, .int .i64 t336] 41 (0, 0)) (by (with_reducible repeat (first | refine blk_drewN ?_ _ | refine blk_drew ?_ | refine blk_alloc ?_ _)); exact BK338.out) hb); have n3_ := Aside0.mk (blk_below (g := gb346) (o := .cells #[.int .i64 t339, .int .i64 t340, .int .i64 t341, .int .i64 t342, .int .i64 t343, .int .i64 t344] 41 (0, 0)) (by (with_reducible repeat (first | refine blk_drewN ?_ _ | refine blk_drew ?_ | refine blk_alloc ?_ _)); exact BK346.out) hb); have n4_ := Aside0.mk (blk_below (g := gb354) (o := .cells #[.int .i64 t351, .int .i64 t352] 77 (0, 0)) (by (with_reducible repeat (first | refine blk_drewN ?_ _ | refine blk_drew ?_ | refine blk_alloc ?_ _)); exact BK354.out) hb); have n5_ := Aside0.mk (below_step (by repeat (first | (with_reducible first | exact HB.out | apply below_alloc | apply pw_below_drewN | apply below_drew1 | refine below_set ?_ GE313.out | refine below_set ?_ GE338.out | refine below_set ?_ GE346.out | refine below_set ?_ GE354.out) | exact HB.out)) hb); have n6_ := Aside0.mk (hbox); have n7_ := Aside0.mk ((by rw [hg]; exact (below_size (by repeat (first | (with_reducible first | exact HB.out | apply below_alloc | apply pw_below_drewN | apply below_drew1 | refine below_set ?_ GE313.out | refine below_set ?_ GE338.out | refine below_set ?_ GE346.out | refine below_set ?_ GE354.out) | exact HB.out))) : w.heap.size ≤ gb358)); have n8_ := Aside0.mk ((by rw [hg]; exact (below_size (by repeat (first | (with_reducible first | exact HB.out | apply below_alloc | apply pw_below_drewN | apply below_drew1 | refine below_set ?_ GE313.out | refine below_set ?_ GE338.out | refine below_set ?_ GE346.out | refine below_set ?_ GE354.out) | exact HB.out))) : w.heap.size ≤ gb358)); have n9_ := Aside0.mk ((by rw [hg]; exact Nat.ne_of_lt (blk_lt (g := gb313) (o := .cells #[.int .i64 a1_0, .int .i64 a1_1, .int .i64 a1_2, .int .i64 a1_3] 39 (0, 0)) (by (with_reducible repeat (first | refine blk_drewN ?_ _ | refine blk_drew ?_ | refine blk_alloc ?_ _)); exact BK313.out)) : gb313 ≠ gb358)); have n10_ := Aside0.mk ((by rw [hg]; exact Nat.ne_of_gt (blk_lt (g := gb313) (o := .cells #[.int .i64 a1_0, .int .i64 a1_1, .int .i64 a1_2, .int .i64 a1_3] 39 (0, 0)) (by (with_reducible repeat (first | refine blk_drewN ?_ _ | refine blk_drew ?_ | refine blk_alloc ?_ _)); exact BK313.out)) : gb358 ≠ gb313)); have n11_ := Aside0.mk ((by rw [hg]; exact Nat.ne_of_lt (blk_lt (g := gb338) (o := .cells #[.int .i64 t331, .int .i64 t332, .int .i64 t333, .int .i64 t334, .int .i64 t335, .int .i64 t336] 41 (0, 0)) (by (with_reducible repeat (first | refine blk_drewN ?_ _ | refine blk_drew ?_ | refine blk_alloc ?_ _)); exact BK338.out)) : gb338 ≠ gb358)); have n12_ := Aside0.mk ((by rw [hg]; exact Nat.ne_of_gt (blk_lt (g := gb338) (o := .cells #[.int .i64 t331, .int .i64 t332, .int .i64 t333, .int .i64 t334, .int .i64 t335, .int .i64 t336] 41 (0, 0)) (by (with_reducible repeat (first | refine blk_drewN ?_ _ | refine blk_drew ?_ | refine blk_alloc ?_ _)); exact BK338.out)) : gb358 ≠ gb338)); have n13_ := Aside0.mk ((by rw [hg]; exact Nat.ne_of_lt (blk_lt (g := gb346) (o := .cells #[.int .i64 t339, .int .i64 t340, .int .i64 t341, .int .i64 t342, .int .i64 t343, .int .i64 t344] 41 (0, 0)) (by (with_reducible repeat (first | refine blk_drewN ?_ _ | refine blk_drew ?_ | refine blk_alloc ?_ _)); exact BK346.out)) : gb346 ≠ gb358)); have n14_ := Aside0.mk ((by rw [hg]; exact Nat.ne_of_gt (blk_lt (g := gb346) (o := .cells #[.int .i64 t339, .int .i64 t340, .int .i64 t341, .int .i64 t342, .int .i64 t343, .int .i64 t344] 41 (0, 0)) (by (with_reducible repeat (first | refine blk_drewN ?_ _ | refine blk_drew ?_ | refine blk_alloc ?_ _)); exact BK346.out)) : gb358 ≠ gb346)); have n15_ := Aside0.mk ((by rw [hg]; exact Nat.ne_of_lt (blk_lt (g := gb354) (o := .cells #[.int .i64 t351, .int .i64 t352] 77 (0, 0)) (by (with_reducible repeat (first | refine blk_drewN ?_ _ | refine blk_drew ?_ | refine blk_alloc ?_ _)); exact BK354.out)) : gb354 ≠ gb358)); have n16_ := Aside0.mk ((by rw [hg]; exact Nat.ne_of_gt (blk_lt (g := gb354) (o := .cells #[.int .i64 t351, .int .i64 t352] 77 (0, 0)) (by (with_reducible repeat (first | refine blk_drewN ?_ _ | refine blk_drew ?_ | refine blk_alloc ?_ _)); exact BK354.out)) : gb358 ≠ gb354)); clear HO_6; clear BK313; clear BK338; clear BK346; clear BK354; clear HB; have HO_6 := n0_; have BK313 := n1_; have BK338 := n2_; have BK346 := n3_; have BK354 := n4_; have HB := n5_; have BK358 := n6_; have GW358 := n7_; have GE358 := n8_; have NB313_358 := n9_; have NB358_313 := n10_; have NB338_358 := n11_; have NB358_338 := n12_; have NB346_358 := n13_; have NB358_346 := n14_; have NB354_358 := n15_; have NB358_354 := n16_; clear n0_ n1_ n2_ n3_ n4_ n5_ n6_ n7_ n8_ n9_ n10_ n11_ n12_ n13_ n14_ n15_ n16_; clear hb hbox hg; have hnb55 := NB358_313.out; have hnc55 := NB313_358.out; have hnb56 := NB358_338.out; have hnc56 := NB338_358.out; have hnb57 := NB358_346.out; have hnc57 := NB346_358.out; have hnb58 := NB358_354.out; have hnc58 := NB354_358.out; have hcz59_0 : w54.cell? ⟨gb358, 0, none⟩ = some (.int .i64 0) := (blk_cell BK358.out 0).trans rfl; have hcz59_1 : w54.cell? ⟨gb358, 1, none⟩ = some (.int .i64 0) := (blk_cell BK358.out 1).trans rfl; have hfz59_0 := blk_frozen BK358.out 0; have hfz59_1 := blk_frozen BK358.out 1) | ((with_reducible refine gate_callee (f := 44) rfl ?_); refine goesL_ (some 100) rfl rfl Try.func44 (by kernel_rfl) rfl #[.slice Ao28 x6_1.length co28] rfl (by (try simp only [List.map_toArray, List.map_cons, List.map_nil]); first | done | rfl | (simp only [List.length_drop, List.length_take]; rfl)) ?_; (with_reducible refine (flyleafref15_Spread.calls kj5 _ _ x6_1 t359 _ ?side1 ?side2 A26.out).mono ?_); (case side1 => refine (Kd.R_reads' (e := 41) (base := w.heap.size) (ok := fun k_ => ((True ∧ k_ ≠ gb338) ∧ k_ ≠ gb346)) (n := x6_1.length) (c := co28) ?_).2.2; exact (by (with_reducible repeat (first | apply Kd.R_alloc | apply Kd.R_drewN | apply Kd.R_drew)); exact (Kd.R_mono (Kd.R_far (p := ⟨gb358, 1, none⟩) (Kd.R_far (p := ⟨gb358, 0, none⟩) (Kd.R_types HO_6.out BK358.out (by decide)) (fun _ hk => hk.2) (.int .i64 t355)) (fun _ hk => hk.2) (.int .i64 t356)) (fun _ h_ => h_.1)))); (case side2 => exact (Kd.R_reads' HO_6.out).2.1); rintro e w60 ⟨v360, rfl, ho0, hb⟩; refine ⟨_, rfl, ?_⟩; have n0_ := Aside0.mk (Kd.R_below (by (with_reducible repeat (first | apply Kd.R_alloc | apply Kd.R_drewN | apply Kd.R_drew)); exact (Kd.R_mono (Kd.R_far (p := ⟨gb358, 1, none⟩) (Kd.R_far (p := ⟨gb358, 0, none⟩) (Kd.R_types HO_6.out BK358.out (by decide)) (fun _ hk => hk.2) (.int .i64 t355)) (fun _ hk => hk.2) (.int .i64 t356)) (fun _ h_ => h_.1))) hb); have n1_ := Aside0.mk (Kd.R_lower ho0 (below_size (by repeat (first | (with_reducible first | exact HB.out | apply below_alloc | apply pw_below_drewN | apply below_drew1 | refine below_set ?_ GE313.out | refine below_set ?_ GE338.out | refine below_set ?_ GE346.out | refine below_set ?_ GE354.out | refine below_set ?_ GE358.out) | exact HB.out)))); have n2_ := Aside0.mk (blk_below (g := gb313) (o := .cells #[.int .i64 a1_0, .int .i64 a1_1, .int .i64 a1_2, .int .i64 a1_3] 39 (0, 0)) (by (with_reducible repeat (first | refine blk_drewN ?_ _ | refine blk_drew ?_ | refine blk_alloc ?_ _)); refine blk_far ?_ NB313_358.out _; (with_reducible repeat (first | refine blk_drewN ?_ _ | refine blk_drew ?_ | refine blk_alloc ?_ _)); refine blk_far ?_ NB313_358.out _; (with_reducible repeat (first | refine blk_drewN ?_ _ | refine blk_drew ?_ | refine blk_alloc ?_ _)); exact BK313.out) hb); have n3_ := Aside0.mk (blk_below (g := gb338) (o := .cells #[.int .i64 t331, .int .i64 t332, .int .i64 t333, .int .i64 t334, .int .i64 t335, .int .i64 t336] 41 (0, 0)) (by (with_reducible repeat (first | refine blk_drewN ?_ _ | refine blk_drew ?_ | refine blk_alloc ?_ _)); refine blk_far ?_ NB338_358.out _; (with_reducible repeat (first | refine blk_drewN ?_ _ | refine blk_drew ?_ | refine blk_alloc ?_ _)); refine blk_far ?_ NB338_358.out _; (with_reducible repeat (first | refine blk_drewN ?_ _ | refine blk_drew ?_ | refine blk_alloc ?_ _)); exact BK338.out) hb); have n4_ := Aside0.mk (blk_below (g := gb346) (o := .cells #[.int .i64 t339, .int .i64 t340, .int .i64 t341, .int .i64 t342, .int .i64 t343, .int .i64 t344] 41 (0, 0)) (by (with_reducible repeat (first | refine blk_drewN ?_ _ | refine blk_drew ?_ | refine blk_alloc ?_ _)); refine blk_far ?_ NB346_358.out _; (with_reducible repeat (first | refine blk_drewN ?_ _ | refine blk_drew ?_ | refine blk_alloc ?_ _)); refine blk_far ?_ NB346_358.out _; (with_reducible repeat (first | refine blk_drewN ?_ _ | refine blk_drew ?_ | refine blk_alloc ?_ _)); exact BK346.out) hb); have n5_ := Aside0.mk (blk_below (g := gb354) (o := .cells #[.int .i64 t351, .int .i64 t352] 77 (0, 0)) (by (with_reducible repeat (first | refine blk_drewN ?_ _ | refine blk_drew ?_ | refine blk_alloc ?_ _)); refine blk_far ?_ NB354_358.out _; (with_reducible repeat (first | refine blk_drewN ?_ _ | refine blk_drew ?_ | refine blk_alloc ?_ _)); refine blk_far ?_ NB354_358.out _; (with_reducible repeat (first | refine blk_drewN ?_ _ | refine blk_drew ?_ | refine blk_alloc ?_ _)); exact BK354.out) hb); have n6_ := Aside0.mk (blk_below (g := gb358) (o := .cells #[.int .i64 t355, .int .i64 t356] 77 (0, 0)) (by (with_reducible repeat (first | refine blk_drewN ?_ _ | refine blk_drew ?_ | refine blk_alloc ?_ _)); refine blk_put (cs := #[.int .i64 t355, .int .i64 0]) ?_ 1 _ rfl; (with_reducible repeat (first | refine blk_drewN ?_ _ | refine blk_drew ?_ | refine blk_alloc ?_ _)); refine blk_put (cs := #[.int .i64 0, .int .i64 0]) ?_ 0 _ rfl; (with_reducible repeat (first | refine blk_drewN ?_ _ | refine blk_drew ?_ | refine blk_alloc ?_ _)); exact BK358.out) hb); have n7_ := Aside0.mk (below_step (by repeat (first | (with_reducible first | exact HB.out | apply below_alloc | apply pw_below_drewN | apply below_drew1 | refine below_set ?_ GE313.out | refine below_set ?_ GE338.out | refine below_set ?_ GE346.out | refine below_set ?_ GE354.out | refine below_set ?_ GE358.out) | exact HB.out)) hb); clear HO_6; clear BK313; clear BK338; clear BK346; clear BK354; clear BK358; clear HB; have HO_6 := n0_; have HO361 := n1_; have BK313 := n2_; have BK338 := n3_; have BK346 := n4_; have BK354 := n5_; have BK358 := n6_; have HB := n7_; clear n0_ n1_ n2_ n3_ n4_ n5_ n6_ n7_; (try clear hb); (try clear hb2); (try clear hk); (try clear hi); (try clear ho0)))
     go_loopg [22, 24] kj5 (fun kq v22 v24 w' => ∃ (x22_3 : Int) (x24_3 : Int), v22 = .int .i64 x22_3 ∧ v24 = .int .i64 x24_3 ∧ Aside0 (flyleaflaw15_RegionAsks.l1 kq t314 x6_1 t337 t345 t347 t348 t349 t350 t353 t357 x22_3 t359 x24_3 a1_0 a1_1 a1_2 a1_3 t331 t332 t333 t334 t335 t336 t339 t340 t341 t342 t343 t344 t351 t352 t355 t356 = some r) ∧ Aside0 (kq ≤ kj5) ∧ Aside0 (Kd.R k41 41 w' w.heap.size (fun k_ => k_ ≠ gb338 ∧ k_ ≠ gb346) (.slice Ao28 x6_1.length co28) x6_1) ∧ Aside0 (Kd.R k87 87 w' w.heap.size (fun _ => True) v360 t359) ∧ Aside0 (w'.heap[gb313]? = some (.cells #[.int .i64 a1_0, .int .i64 a1_1, .int .i64 a1_2, .int .i64 a1_3] 39 (0, 0))) ∧ Aside0 (w'.heap[gb338]? = some (.cells #[.int .i64 t331, .int .i64 t332, .int .i64 t333, .int .i64 t334, .int .i64 t335, .int .i64 t336] 41 (0, 0))) ∧ Aside0 (w'.heap[gb346]? = some (.cells #[.int .i64 t339, .int .i64 t340, .int .i64 t341, .int .i64 t342, .int .i64 t343, .int .i64 t344] 41 (0, 0))) ∧ Aside0 (w'.heap[gb354]? = some (.cells #[.int .i64 t351, .int .i64 t352] 77 (0, 0))) ∧ Aside0 (w'.heap[gb358]? = some (.cells #[.int .i64 t355, .int .i64 t356] 77 (0, 0))) ∧ Aside0 (Below w.heap.size w w'))
     case atStart => exact ⟨(0), (0), (by first | rfl | (simp; done) | (simp [*]; done)), (by first | rfl | (simp; done) | (simp [*]; done)), H', ⟨Nat.le_refl _⟩, ⟨by (with_reducible repeat (first | apply Kd.R_alloc | apply Kd.R_drewN | apply Kd.R_drew)); exact Kd.R_mono HO_6.out (fun _ hk => ⟨hk.1.2, hk.2⟩)⟩, ⟨by (with_reducible repeat (first | apply Kd.R_alloc | apply Kd.R_drewN | apply Kd.R_drew)); exact HO361.out⟩, ⟨by (with_reducible repeat (first | refine blk_drewN ?_ _ | refine blk_drew ?_ | refine blk_alloc ?_ _)); exact BK313.out⟩, ⟨by (with_reducible repeat (first | refine blk_drewN ?_ _ | refine blk_drew ?_ | refine blk_alloc ?_ _)); exact BK338.out⟩, ⟨by (with_reducible repeat (first | refine blk_drewN ?_ _ | refine blk_drew ?_ | refine blk_alloc ?_ _)); exact BK346.out⟩, ⟨by (with_reducible repeat (first | refine blk_drewN ?_ _ | refine blk_drew ?_ | refine blk_alloc ?_ _)); exact BK354.out⟩, ⟨by (with_reducible repeat (first | refine blk_drewN ?_ _ | refine blk_drew ?_ | refine blk_alloc ?_ _)); exact BK358.out⟩, ⟨by repeat (first | (with_reducible first | exact HB.out | apply below_alloc | apply pw_below_drewN | apply below_drew1 | refine below_set ?_ GE313.out | refine below_set ?_ GE338.out | refine below_set ?_ GE346.out | refine below_set ?_ GE354.out | refine below_set ?_ GE358.out) | exact HB.out)⟩⟩
     case round =>
      clear H'
      try clear c1
      try clear c2
      try clear p2
      try clear c3
      try clear p3
      try clear q3
      try clear hx3
      try clear c4
      try clear c5
      try clear p6
      try clear c7
      try clear c7b0
      try clear c8
      try clear c9
      try clear c9b0
      try clear c10
      try clear c10b0
      try clear c11
      try clear c13
      try clear c13b0
      try clear c13b1
      try clear c23
      try clear c31
      try clear p31
      try clear q31
      try clear hx31
      try clear c33
      try clear c34
      try clear c36
      try clear c37
      try clear c38
      try clear c40
      try clear c41
      try clear c42
      try clear c43
      try clear c44
      try clear c47
      try clear c48
      try clear c49
      try clear c55
      try clear c56
      try clear c57
      try clear c58
      try clear hcz27_0
      try clear hcz27_1
      try clear hcz27_2
      try clear hcz27_3
      try clear hcz32_0
      try clear hcz32_1
      try clear hcz32_2
      try clear hcz32_3
      try clear hcz32_4
      try clear hcz32_5
      try clear hcz33_0
      try clear hcz33_1
      try clear hcz33_2
      try clear hcz33_3
      try clear hcz38_0
      try clear hcz38_1
      try clear hcz38_2
      try clear hcz38_3
      try clear hcz38_4
      try clear hcz38_5
      try clear hcz39_0
      try clear hcz39_1
      try clear hcz39_2
      try clear hcz39_3
      try clear hcz41_0
      try clear hcz41_1
      try clear hcz41_2
      try clear hcz41_3
      try clear hcz43_0
      try clear hcz43_1
      try clear hcz43_2
      try clear hcz43_3
      try clear hcz43_4
      try clear hcz43_5
      try clear hcz44_0
      try clear hcz44_1
      try clear hcz44_2
      try clear hcz44_3
      try clear hcz50_0
      try clear hcz50_1
      try clear hcz51_0
      try clear hcz51_1
      try clear hcz51_2
      try clear hcz51_3
      try clear hcz51_4
      try clear hcz51_5
      try clear hcz52_0
      try clear hcz52_1
      try clear hcz52_2
      try clear hcz52_3
      try clear hcz59_0
      try clear hcz59_1
      try clear hfz27_0
      try clear hfz27_1
      try clear hfz27_2
      try clear hfz27_3
      try clear hfz32_0
      try clear hfz32_1
      try clear hfz32_2
      try clear hfz32_3
      try clear hfz32_4
      try clear hfz32_5
      try clear hfz33_0
      try clear hfz33_1
      try clear hfz33_2
      try clear hfz33_3
      try clear hfz38_0
      try clear hfz38_1
      try clear hfz38_2
      try clear hfz38_3
      try clear hfz38_4
      try clear hfz38_5
      try clear hfz39_0
      try clear hfz39_1
      try clear hfz39_2
      try clear hfz39_3
      try clear hfz41_0
      try clear hfz41_1
      try clear hfz41_2
      try clear hfz41_3
      try clear hfz43_0
      try clear hfz43_1
      try clear hfz43_2
      try clear hfz43_3
      try clear hfz43_4
      try clear hfz43_5
      try clear hfz44_0
      try clear hfz44_1
      try clear hfz44_2
      try clear hfz44_3
      try clear hfz50_0
      try clear hfz50_1
      try clear hfz51_0
      try clear hfz51_1
      try clear hfz51_2
      try clear hfz51_3
      try clear hfz51_4
      try clear hfz51_5
      try clear hfz52_0
      try clear hfz52_1
      try clear hfz52_2
      try clear hfz52_3
      try clear hfz59_0
      try clear hfz59_1
      try clear hx315_0
      try clear hx315_1
      try clear hx315_10
      try clear hx315_2
      try clear hx315_3
      try clear hx315_4
      try clear hx315_5
      try clear hx315_6
      try clear hx315_7
      try clear hx315_8
      try clear hx315_9
      try clear p2
      try clear p315
      try clear q315
      obtain ⟨x22_3, x24_3, rfl, rfl, HA, HK3, HO_6, HO_23, BK313, BK338, BK346, BK354, BK358, HB⟩ := hrel
      cases gk with
      | zero => exact absurd HA.out (by simp [flyleaflaw15_RegionAsks.l1])
      | succ k3 =>
       have H := HA.out
       clear HA
       simp only [flyleaflaw15_RegionAsks.l1] at H
       by_cases c61 : x24_3 < (t359.length : Int)
       · rw [if_pos c61] at H
         have c61b0 : decide (x24_3 < (t359.length : Int)) = true := decide_eq_true c61
         clear c61
         by_cases c62 : 0 ≤ x24_3
         rotate_left
         · rw [if_neg c62] at H
           exact absurd H (by simp)
         rw [if_pos c62] at H
         have c62b0 : decide (0 ≤ x24_3) = true := decide_eq_true c62
         clear c62
         obtain ⟨bq63, hbq63⟩ : ∃ b_ : Bool, b_ = ((rd_T87 t359 x24_3).f1) := ⟨_, rfl⟩
         replace H : (if bq63 = true then (flyleaflaw15_RegionAsks.l1 k3 t314 x6_1 t337 t345 t347 t348 t349 t350 t353 t357 (wrap64 (x22_3 + 1)) t359 (wrap64 (x24_3 + 1)) a1_0 a1_1 a1_2 a1_3 t331 t332 t333 t334 t335 t336 t339 t340 t341 t342 t343 t344 t351 t352 t355 t356) else (flyleaflaw15_RegionAsks.l1 k3 t314 x6_1 t337 t345 t347 t348 t349 t350 t353 t357 x22_3 t359 (wrap64 (x24_3 + 1)) a1_0 a1_1 a1_2 a1_3 t331 t332 t333 t334 t335 t336 t339 t340 t341 t342 t343 t344 t351 t352 t355 t356)) = some r := by rw [← hbq63] at H; exact H
         have Nbq63 := Aside0.mk hbq63
         clear hbq63
         by_cases c64 : bq63 = true
         · subst c64
           have H1 : (flyleaflaw15_RegionAsks.l1 k3 t314 x6_1 t337 t345 t347 t348 t349 t350 t353 t357 (wrap64 (x22_3 + 1)) t359 (wrap64 (x24_3 + 1)) a1_0 a1_1 a1_2 a1_3 t331 t332 t333 t334 t335 t336 t339 t340 t341 t342 t343 t344 t351 t352 t355 t356) = some r := by rw [if_pos rfl] at H; exact H
           clear H
           have H := H1
           clear H1
           have H' := Aside0.mk H
           clear H
           obtain ⟨Ao65, co65, eo65⟩ := Kd.R_slice HO_23.out
           subst eo65
           have p362 : 0 ≤ (x24_3 : Int) := of_decide_eq_true (by first | (with_reducible assumption) | assumption)
           have q362 : x24_3 < (t359.length : Int) := of_decide_eq_true (by first | (with_reducible assumption) | assumption)
           obtain ⟨ad362, e362, hx362_0, hx362_1, hx362_2, hx362_3, hx362_4, hx362_5, hx362_6⟩ := at_T87 (Kd.R_reads' HO_23.out).2.2 x24_3 p362 q362
           (try rw [← Nbq63.out] at hx362_6)
           cases e362
           replace p362 := eq_true p362
           replace q362 := eq_true q362
           go_wp2
           go_roundg k3
           case measure => have := HK1.out; have := HJ5.out; have := HK3.out; omega
           case rel => exact ⟨(wrap64 (x22_3 + 1)), (wrap64 (x24_3 + 1)), (by first | rfl | (simp; done) | (simp [*]; done)), (by first | rfl | (simp; done) | (simp [*]; done)), H', ⟨by have := HK1.out; have := HJ5.out; have := HK3.out; omega⟩, ⟨by (with_reducible repeat (first | apply Kd.R_alloc | apply Kd.R_drewN | apply Kd.R_drew)); exact HO_6.out⟩, ⟨by (with_reducible repeat (first | apply Kd.R_alloc | apply Kd.R_drewN | apply Kd.R_drew)); exact HO_23.out⟩, ⟨by (with_reducible repeat (first | refine blk_drewN ?_ _ | refine blk_drew ?_ | refine blk_alloc ?_ _)); exact BK313.out⟩, ⟨by (with_reducible repeat (first | refine blk_drewN ?_ _ | refine blk_drew ?_ | refine blk_alloc ?_ _)); exact BK338.out⟩, ⟨by (with_reducible repeat (first | refine blk_drewN ?_ _ | refine blk_drew ?_ | refine blk_alloc ?_ _)); exact BK346.out⟩, ⟨by (with_reducible repeat (first | refine blk_drewN ?_ _ | refine blk_drew ?_ | refine blk_alloc ?_ _)); exact BK354.out⟩, ⟨by (with_reducible repeat (first | refine blk_drewN ?_ _ | refine blk_drew ?_ | refine blk_alloc ?_ _)); exact BK358.out⟩, ⟨by repeat (first | (with_reducible first | exact HB.out | apply below_alloc | apply pw_below_drewN | apply below_drew1 | refine below_set ?_ GE313.out | refine below_set ?_ GE338.out | refine below_set ?_ GE346.out | refine below_set ?_ GE354.out | refine below_set ?_ GE358.out) | exact HB.out)⟩⟩
         replace c64 := Bool.eq_false_iff.mpr c64
         subst c64
         have H1 : (flyleaflaw15_RegionAsks.l1 k3 t314 x6_1 t337 t345 t347 t348 t349 t350 t353 t357 x22_3 t359 (wrap64 (x24_3 + 1)) a1_0 a1_1 a1_2 a1_3 t331 t332 t333 t334 t335 t336 t339 t340 t341 t342 t343 t344 t351 t352 t355 t356) = some r := by rw [if_neg (show ¬ (false = true) by decide)] at H; exact H
         clear H
         have H := H1
         clear H1
         have H' := Aside0.mk H
         clear H
         obtain ⟨Ao66, co66, eo66⟩ := Kd.R_slice HO_23.out
         subst eo66
         have p362 : 0 ≤ (x24_3 : Int) := of_decide_eq_true (by first | (with_reducible assumption) | assumption)
         have q362 : x24_3 < (t359.length : Int) := of_decide_eq_true (by first | (with_reducible assumption) | assumption)
         obtain ⟨ad362, e362, hx362_0, hx362_1, hx362_2, hx362_3, hx362_4, hx362_5, hx362_6⟩ := at_T87 (Kd.R_reads' HO_23.out).2.2 x24_3 p362 q362
         (try rw [← Nbq63.out] at hx362_6)
         cases e362
         replace p362 := eq_true p362
         replace q362 := eq_true q362
         go_wp2
         go_roundg k3
         case measure => have := HK1.out; have := HJ5.out; have := HK3.out; omega
         case rel => exact ⟨(x22_3), (wrap64 (x24_3 + 1)), (by first | rfl | (simp; done) | (simp [*]; done)), (by first | rfl | (simp; done) | (simp [*]; done)), H', ⟨by have := HK1.out; have := HJ5.out; have := HK3.out; omega⟩, ⟨by (with_reducible repeat (first | apply Kd.R_alloc | apply Kd.R_drewN | apply Kd.R_drew)); exact HO_6.out⟩, ⟨by (with_reducible repeat (first | apply Kd.R_alloc | apply Kd.R_drewN | apply Kd.R_drew)); exact HO_23.out⟩, ⟨by (with_reducible repeat (first | refine blk_drewN ?_ _ | refine blk_drew ?_ | refine blk_alloc ?_ _)); exact BK313.out⟩, ⟨by (with_reducible repeat (first | refine blk_drewN ?_ _ | refine blk_drew ?_ | refine blk_alloc ?_ _)); exact BK338.out⟩, ⟨by (with_reducible repeat (first | refine blk_drewN ?_ _ | refine blk_drew ?_ | refine blk_alloc ?_ _)); exact BK346.out⟩, ⟨by (with_reducible repeat (first | refine blk_drewN ?_ _ | refine blk_drew ?_ | refine blk_alloc ?_ _)); exact BK354.out⟩, ⟨by (with_reducible repeat (first | refine blk_drewN ?_ _ | refine blk_drew ?_ | refine blk_alloc ?_ _)); exact BK358.out⟩, ⟨by repeat (first | (with_reducible first | exact HB.out | apply below_alloc | apply pw_below_drewN | apply below_drew1 | refine below_set ?_ GE313.out | refine below_set ?_ GE338.out | refine below_set ?_ GE346.out | refine below_set ?_ GE354.out | refine below_set ?_ GE358.out) | exact HB.out)⟩⟩
       rw [if_neg c61] at H
       have c61b0 : decide (x24_3 < (t359.length : Int)) = false := decide_eq_false c61
       clear c61
       by_cases c67 : t314 = true
       rotate_left
       · replace c67 := Bool.eq_false_iff.mpr c67
         subst c67
         have H1 : (some false) = some r := by rw [if_neg (show ¬ (false = true) by decide)] at H; exact H
         clear H
         have H := H1
         clear H1
         obtain rfl := Option.some.inj H
         obtain ⟨Ao99, co99, eo99⟩ := Kd.R_slice HO_23.out
         subst eo99
         try go_wp2
         have n0_ := Aside0.mk (Kd.R_drew HO_6.out)
         have n1_ := Aside0.mk (Kd.R_drew HO_23.out)
         have n2_ := Aside0.mk (blk_drew BK313.out)
         have n3_ := Aside0.mk (blk_drew BK338.out)
         have n4_ := Aside0.mk (blk_drew BK346.out)
         have n5_ := Aside0.mk (blk_drew BK354.out)
         have n6_ := Aside0.mk (blk_drew BK358.out)
         have n7_ := Aside0.mk (below_drew1 HB.out)
         clear HO_6
         clear HO_23
         clear BK313
         clear BK338
         clear BK346
         clear BK354
         clear BK358
         clear HB
         have HO_6 := n0_
         have HO_23 := n1_
         have BK313 := n2_
         have BK338 := n3_
         have BK346 := n4_
         have BK354 := n5_
         have BK358 := n6_
         have HB := n7_
         clear n0_ n1_ n2_ n3_ n4_ n5_ n6_ n7_
         refine start_ (n := 53) (S := fun w' => True) (ds := []) z0_ (by kernel_rfl) rfl rfl trivial (fun hHeld => ?_); refine with_tabW flyleaflaw15_RegionAsks.tab22 flyleaflaw15_RegionAsks.bits22 (fun HT_ HW_ => ?_)
         generalize wr.drew = w100 at HO_6 HO_23 BK313 BK338 BK346 BK354 BK358 HB hHeld ⊢
         refine pure_ (i := 0) (N := some 114) (v := ?_) (a' := ?_) z1_ rfl rfl (any_of HT_.out (by kernel_rfl)) (fun _ _ _ h => h) (Or.inl ⟨by rfl, ?_⟩) ?_ ?_; rotate_left; intro w'; go_simp; with_reducible rfl; rotate_left; simp only [Act.put, sA_, sB_, sC_, i64_w, i32_w]; rfl
         refine pure_ (i := 1) (N := some 115) (v := ?_) (a' := ?_) z2_ rfl rfl (any_of HT_.out (by kernel_rfl)) (fun _ _ _ h => h) (Or.inl ⟨by rfl, ?_⟩) ?_ ?_; rotate_left; intro w'; go_simp; with_reducible rfl; rotate_left; simp only [Act.put, sA_, sB_, sC_, i64_w, i32_w]; rfl
         refine pure_ (i := 2) (N := some 116) (v := undef) (a' := ?_) z3_ rfl rfl (any_of HT_.out (by kernel_rfl)) (fun _ _ _ h => h) (Or.inr ⟨by rfl, rfl⟩) ?_ ?_
         rotate_left
         · simp only [Act.put, sA_, sB_, sC_, i64_w, i32_w]
           rfl
         refine pure_ (i := 3) (N := some 117) (v := undef) (a' := ?_) z4_ rfl rfl (any_of HT_.out (by kernel_rfl)) (fun _ _ _ h => h) (Or.inr ⟨by rfl, rfl⟩) ?_ ?_
         rotate_left
         · simp only [Act.put, sA_, sB_, sC_, i64_w, i32_w]
           rfl
         refine pure_ (i := 4) (N := some 118) (v := undef) (a' := ?_) z5_ rfl rfl (any_of HT_.out (by kernel_rfl)) (fun _ _ _ h => h) (Or.inr ⟨by rfl, rfl⟩) ?_ ?_
         rotate_left
         · simp only [Act.put, sA_, sB_, sC_, i64_w, i32_w]
           rfl
         refine pure_ (i := 5) (N := some 119) (v := ?_) (a' := ?_) z6_ rfl rfl (any_of HT_.out (by kernel_rfl)) (fun _ _ _ h => h) (Or.inl ⟨by rfl, ?_⟩) ?_ ?_; rotate_left; intro w'; go_simp; with_reducible rfl; rotate_left; simp only [Act.put, sA_, sB_, sC_, i64_w, i32_w]; rfl
         refine pure_ (i := 6) (N := some 120) (v := ?_) (a' := ?_) z7_ rfl rfl (any_of HT_.out (by kernel_rfl)) (fun _ _ _ h => h) (Or.inl ⟨by rfl, ?_⟩) ?_ ?_; rotate_left; intro w'; go_simp; with_reducible rfl; rotate_left; simp only [Act.put, sA_, sB_, sC_, i64_w, i32_w]; rfl
         refine pure_ (i := 7) (N := some 121) (v := undef) (a' := ?_) z8_ rfl rfl (any_of HT_.out (by kernel_rfl)) (fun _ _ _ h => h) (Or.inr ⟨by rfl, rfl⟩) ?_ ?_
         rotate_left
         · simp only [Act.put, sA_, sB_, sC_, i64_w, i32_w]
           rfl
         refine pure_ (i := 8) (N := some 122) (v := undef) (a' := ?_) z9_ rfl rfl (any_of HT_.out (by kernel_rfl)) (fun _ _ _ h => h) (Or.inr ⟨by rfl, rfl⟩) ?_ ?_
         rotate_left
         · simp only [Act.put, sA_, sB_, sC_, i64_w, i32_w]
           rfl
         refine pure_ (i := 9) (N := some 123) (v := undef) (a' := ?_) z10_ rfl rfl (any_of HT_.out (by kernel_rfl)) (fun _ _ _ h => h) (Or.inr ⟨by rfl, rfl⟩) ?_ ?_
         rotate_left
         · simp only [Act.put, sA_, sB_, sC_, i64_w, i32_w]
           rfl
         refine pure_ (i := 10) (N := some 124) (v := ?_) (a' := ?_) z11_ rfl rfl (any_of HT_.out (by kernel_rfl)) (fun _ _ _ h => h) (Or.inl ⟨by rfl, ?_⟩) ?_ ?_; rotate_left; intro w'; go_simp; with_reducible rfl; rotate_left; simp only [Act.put, sA_, sB_, sC_, i64_w, i32_w]; rfl
         refine pure_ (i := 11) (N := some 125) (v := ?_) (a' := ?_) z12_ rfl rfl (any_of HT_.out (by kernel_rfl)) (fun _ _ _ h => h) (Or.inl ⟨by rfl, ?_⟩) ?_ ?_; rotate_left; intro w'; go_simp; with_reducible rfl; rotate_left; simp only [Act.put, sA_, sB_, sC_, i64_w, i32_w]; rfl
         refine pure_ (i := 12) (N := some 126) (v := undef) (a' := ?_) z13_ rfl rfl (any_of HT_.out (by kernel_rfl)) (fun _ _ _ h => h) (Or.inr ⟨by rfl, rfl⟩) ?_ ?_
         rotate_left
         · simp only [Act.put, sA_, sB_, sC_, i64_w, i32_w]
           rfl
         refine pure_ (i := 13) (N := some 127) (v := undef) (a' := ?_) z14_ rfl rfl (any_of HT_.out (by kernel_rfl)) (fun _ _ _ h => h) (Or.inr ⟨by rfl, rfl⟩) ?_ ?_
         rotate_left
         · simp only [Act.put, sA_, sB_, sC_, i64_w, i32_w]
           rfl
         refine pure_ (i := 14) (N := some 128) (v := undef) (a' := ?_) z15_ rfl rfl (any_of HT_.out (by kernel_rfl)) (fun _ _ _ h => h) (Or.inr ⟨by rfl, rfl⟩) ?_ ?_
         rotate_left
         · simp only [Act.put, sA_, sB_, sC_, i64_w, i32_w]
           rfl
         refine pure_ (i := 15) (N := some 129) (v := ?_) (a' := ?_) z16_ rfl rfl (any_of HT_.out (by kernel_rfl)) (fun _ _ _ h => h) (Or.inl ⟨by rfl, ?_⟩) ?_ ?_; rotate_left; intro w'; go_simp; with_reducible rfl; rotate_left; simp only [Act.put, sA_, sB_, sC_, i64_w, i32_w]; rfl
         refine pure_ (i := 16) (N := some 130) (v := ?_) (a' := ?_) z17_ rfl rfl (any_of HT_.out (by kernel_rfl)) (fun _ _ _ h => h) (Or.inl ⟨by rfl, ?_⟩) ?_ ?_; rotate_left; intro w'; go_simp; with_reducible rfl; rotate_left; simp only [Act.put, sA_, sB_, sC_, i64_w, i32_w]; rfl
         refine pure_ (i := 17) (N := some 131) (v := undef) (a' := ?_) z18_ rfl rfl (any_of HT_.out (by kernel_rfl)) (fun _ _ _ h => h) (Or.inr ⟨by rfl, rfl⟩) ?_ ?_
         rotate_left
         · simp only [Act.put, sA_, sB_, sC_, i64_w, i32_w]
           rfl
         refine pure_ (i := 18) (N := some 132) (v := undef) (a' := ?_) z19_ rfl rfl (any_of HT_.out (by kernel_rfl)) (fun _ _ _ h => h) (Or.inr ⟨by rfl, rfl⟩) ?_ ?_
         rotate_left
         · simp only [Act.put, sA_, sB_, sC_, i64_w, i32_w]
           rfl
         refine pure_ (i := 19) (N := some 133) (v := undef) (a' := ?_) z20_ rfl rfl (any_of HT_.out (by kernel_rfl)) (fun _ _ _ h => h) (Or.inr ⟨by rfl, rfl⟩) ?_ ?_
         rotate_left
         · simp only [Act.put, sA_, sB_, sC_, i64_w, i32_w]
           rfl
         refine pure_ (i := 20) (N := some 134) (v := ?_) (a' := ?_) z21_ rfl rfl (any_of HT_.out (by kernel_rfl)) (fun _ _ _ h => h) (Or.inl ⟨by rfl, ?_⟩) ?_ ?_; rotate_left; intro w'; go_simp; with_reducible rfl; rotate_left; simp only [Act.put, sA_, sB_, sC_, i64_w, i32_w]; rfl
         refine pure_ (i := 21) (N := some 135) (v := ?_) (a' := ?_) z22_ rfl rfl (any_of HT_.out (by kernel_rfl)) (fun _ _ _ h => h) (Or.inl ⟨by rfl, ?_⟩) ?_ ?_; rotate_left; intro w'; go_simp; with_reducible rfl; rotate_left; simp only [Act.put, sA_, sB_, sC_, i64_w, i32_w]; rfl
         refine pure_ (i := 22) (N := some 136) (v := undef) (a' := ?_) z23_ rfl rfl (any_of HT_.out (by kernel_rfl)) (fun _ _ _ h => h) (Or.inr ⟨by rfl, rfl⟩) ?_ ?_
         rotate_left
         · simp only [Act.put, sA_, sB_, sC_, i64_w, i32_w]
           rfl
         refine pure_ (i := 23) (N := some 137) (v := undef) (a' := ?_) z24_ rfl rfl (any_of HT_.out (by kernel_rfl)) (fun _ _ _ h => h) (Or.inr ⟨by rfl, rfl⟩) ?_ ?_
         rotate_left
         · simp only [Act.put, sA_, sB_, sC_, i64_w, i32_w]
           rfl
         refine pure_ (i := 24) (N := some 138) (v := undef) (a' := ?_) z25_ rfl rfl (any_of HT_.out (by kernel_rfl)) (fun _ _ _ h => h) (Or.inr ⟨by rfl, rfl⟩) ?_ ?_
         rotate_left
         · simp only [Act.put, sA_, sB_, sC_, i64_w, i32_w]
           rfl
         refine pure_ (i := 25) (N := some 139) (v := ?_) (a' := ?_) z26_ rfl rfl (any_of HT_.out (by kernel_rfl)) (fun _ _ _ h => h) (Or.inl ⟨by rfl, ?_⟩) ?_ ?_; rotate_left; intro w'; go_simp; with_reducible rfl; rotate_left; simp only [Act.put, sA_, sB_, sC_, i64_w, i32_w]; rfl
         refine pure_ (i := 26) (N := some 140) (v := ?_) (a' := ?_) z27_ rfl rfl (any_of HT_.out (by kernel_rfl)) (fun _ _ _ h => h) (Or.inl ⟨by rfl, ?_⟩) ?_ ?_; rotate_left; intro w'; go_simp; with_reducible rfl; rotate_left; simp only [Act.put, sA_, sB_, sC_, i64_w, i32_w]; rfl
         refine pure_ (i := 27) (N := some 141) (v := undef) (a' := ?_) z28_ rfl rfl (any_of HT_.out (by kernel_rfl)) (fun _ _ _ h => h) (Or.inr ⟨by rfl, rfl⟩) ?_ ?_
         rotate_left
         · simp only [Act.put, sA_, sB_, sC_, i64_w, i32_w]
           rfl
         refine pure_ (i := 28) (N := some 142) (v := undef) (a' := ?_) z29_ rfl rfl (any_of HT_.out (by kernel_rfl)) (fun _ _ _ h => h) (Or.inr ⟨by rfl, rfl⟩) ?_ ?_
         rotate_left
         · simp only [Act.put, sA_, sB_, sC_, i64_w, i32_w]
           rfl
         refine pure_ (i := 29) (N := some 143) (v := undef) (a' := ?_) z30_ rfl rfl (any_of HT_.out (by kernel_rfl)) (fun _ _ _ h => h) (Or.inr ⟨by rfl, rfl⟩) ?_ ?_
         rotate_left
         · simp only [Act.put, sA_, sB_, sC_, i64_w, i32_w]
           rfl
         refine pure_ (i := 30) (N := some 144) (v := ?_) (a' := ?_) z31_ rfl rfl (any_of HT_.out (by kernel_rfl)) (fun _ _ _ h => h) (Or.inl ⟨by rfl, ?_⟩) ?_ ?_; rotate_left; intro w'; go_simp; with_reducible rfl; rotate_left; simp only [Act.put, sA_, sB_, sC_, i64_w, i32_w]; rfl
         refine pure_ (i := 31) (N := some 145) (v := ?_) (a' := ?_) z32_ rfl rfl (any_of HT_.out (by kernel_rfl)) (fun _ _ _ h => h) (Or.inl ⟨by rfl, ?_⟩) ?_ ?_; rotate_left; intro w'; go_simp; with_reducible rfl; rotate_left; simp only [Act.put, sA_, sB_, sC_, i64_w, i32_w]; rfl
         refine pure_ (i := 32) (N := some 146) (v := undef) (a' := ?_) z33_ rfl rfl (any_of HT_.out (by kernel_rfl)) (fun _ _ _ h => h) (Or.inr ⟨by rfl, rfl⟩) ?_ ?_
         rotate_left
         · simp only [Act.put, sA_, sB_, sC_, i64_w, i32_w]
           rfl
         refine pure_ (i := 33) (N := some 147) (v := undef) (a' := ?_) z34_ rfl rfl (any_of HT_.out (by kernel_rfl)) (fun _ _ _ h => h) (Or.inr ⟨by rfl, rfl⟩) ?_ ?_
         rotate_left
         · simp only [Act.put, sA_, sB_, sC_, i64_w, i32_w]
           rfl
         refine pure_ (i := 34) (N := some 148) (v := undef) (a' := ?_) z35_ rfl rfl (any_of HT_.out (by kernel_rfl)) (fun _ _ _ h => h) (Or.inr ⟨by rfl, rfl⟩) ?_ ?_
         rotate_left
         · simp only [Act.put, sA_, sB_, sC_, i64_w, i32_w]
           rfl
         refine pure_ (i := 35) (N := some 149) (v := undef) (a' := ?_) z36_ rfl rfl (any_of HT_.out (by kernel_rfl)) (fun _ _ _ h => h) (Or.inr ⟨by rfl, rfl⟩) ?_ ?_
         rotate_left
         · simp only [Act.put, sA_, sB_, sC_, i64_w, i32_w]
           rfl
         refine pure_ (i := 36) (N := some 150) (v := undef) (a' := ?_) z37_ rfl rfl (any_of HT_.out (by kernel_rfl)) (fun _ _ _ h => h) (Or.inr ⟨by rfl, rfl⟩) ?_ ?_
         rotate_left
         · simp only [Act.put, sA_, sB_, sC_, i64_w, i32_w]
           rfl
         refine pure_ (i := 37) (N := some 151) (v := undef) (a' := ?_) z38_ rfl rfl (any_of HT_.out (by kernel_rfl)) (fun _ _ _ h => h) (Or.inr ⟨by rfl, rfl⟩) ?_ ?_
         rotate_left
         · simp only [Act.put, sA_, sB_, sC_, i64_w, i32_w]
           rfl
         refine pure_ (i := 38) (N := some 152) (v := undef) (a' := ?_) z39_ rfl rfl (any_of HT_.out (by kernel_rfl)) (fun _ _ _ h => h) (Or.inr ⟨by rfl, rfl⟩) ?_ ?_
         rotate_left
         · simp only [Act.put, sA_, sB_, sC_, i64_w, i32_w]
           rfl
         refine pure_ (i := 39) (N := some 153) (v := undef) (a' := ?_) z40_ rfl rfl (any_of HT_.out (by kernel_rfl)) (fun _ _ _ h => h) (Or.inr ⟨by rfl, rfl⟩) ?_ ?_
         rotate_left
         · simp only [Act.put, sA_, sB_, sC_, i64_w, i32_w]
           rfl
         refine pure_ (i := 40) (N := some 154) (v := undef) (a' := ?_) z41_ rfl rfl (any_of HT_.out (by kernel_rfl)) (fun _ _ _ h => h) (Or.inr ⟨by rfl, rfl⟩) ?_ ?_
         rotate_left
         · simp only [Act.put, sA_, sB_, sC_, i64_w, i32_w]
           rfl
         refine pure_ (i := 41) (N := some 155) (v := undef) (a' := ?_) z42_ rfl rfl (any_of HT_.out (by kernel_rfl)) (fun _ _ _ h => h) (Or.inr ⟨by rfl, rfl⟩) ?_ ?_
         rotate_left
         · simp only [Act.put, sA_, sB_, sC_, i64_w, i32_w]
           rfl
         refine pure_ (i := 42) (N := some 156) (v := undef) (a' := ?_) z43_ rfl rfl (any_of HT_.out (by kernel_rfl)) (fun _ _ _ h => h) (Or.inr ⟨by rfl, rfl⟩) ?_ ?_
         rotate_left
         · simp only [Act.put, sA_, sB_, sC_, i64_w, i32_w]
           rfl
         refine pure_ (i := 43) (N := some 157) (v := undef) (a' := ?_) z44_ rfl rfl (any_of HT_.out (by kernel_rfl)) (fun _ _ _ h => h) (Or.inr ⟨by rfl, rfl⟩) ?_ ?_
         rotate_left
         · simp only [Act.put, sA_, sB_, sC_, i64_w, i32_w]
           rfl
         refine pure_ (i := 44) (N := some 158) (v := undef) (a' := ?_) z45_ rfl rfl (any_of HT_.out (by kernel_rfl)) (fun _ _ _ h => h) (Or.inr ⟨by rfl, rfl⟩) ?_ ?_
         rotate_left
         · simp only [Act.put, sA_, sB_, sC_, i64_w, i32_w]
           rfl
         refine pure_ (i := 45) (N := some 159) (v := ?_) (a' := ?_) z46_ rfl rfl (any_of HT_.out (by kernel_rfl)) (fun _ _ _ h => h) (Or.inl ⟨by rfl, ?_⟩) ?_ ?_; rotate_left; intro w'; go_simp; with_reducible rfl; rotate_left; simp only [Act.put, sA_, sB_, sC_, i64_w, i32_w]; rfl
         refine pure_ (i := 46) (N := some 160) (v := ?_) (a' := ?_) z47_ rfl rfl (any_of HT_.out (by kernel_rfl)) (fun _ _ _ h => h) (Or.inl ⟨by rfl, ?_⟩) ?_ ?_; rotate_left; intro w'; go_simp; with_reducible rfl; rotate_left; simp only [Act.put, sA_, sB_, sC_, i64_w, i32_w]; rfl
         refine pure_ (i := 47) (N := some 161) (v := undef) (a' := ?_) z48_ rfl rfl (any_of HT_.out (by kernel_rfl)) (fun _ _ _ h => h) (Or.inr ⟨by rfl, rfl⟩) ?_ ?_
         rotate_left
         · simp only [Act.put, sA_, sB_, sC_, i64_w, i32_w]
           rfl
         refine pure_ (i := 48) (N := some 162) (v := undef) (a' := ?_) z49_ rfl rfl (any_of HT_.out (by kernel_rfl)) (fun _ _ _ h => h) (Or.inr ⟨by rfl, rfl⟩) ?_ ?_
         rotate_left
         · simp only [Act.put, sA_, sB_, sC_, i64_w, i32_w]
           rfl
         refine pure_ (i := 49) (N := some 163) (v := undef) (a' := ?_) z50_ rfl rfl (any_of HT_.out (by kernel_rfl)) (fun _ _ _ h => h) (Or.inr ⟨by rfl, rfl⟩) ?_ ?_
         rotate_left
         · simp only [Act.put, sA_, sB_, sC_, i64_w, i32_w]
           rfl
         refine pure_ (i := 50) (N := some 164) (v := undef) (a' := ?_) z51_ rfl rfl (any_of HT_.out (by kernel_rfl)) (fun _ _ _ h => h) (Or.inr ⟨by rfl, rfl⟩) ?_ ?_
         rotate_left
         · simp only [Act.put, sA_, sB_, sC_, i64_w, i32_w]
           rfl
         refine pure_ (i := 51) (N := some 165) (v := ?_) (a' := ?_) z52_ rfl rfl (any_of HT_.out (by kernel_rfl)) (fun _ _ _ h => h) (Or.inl ⟨by rfl, ?_⟩) ?_ ?_; rotate_left; intro w'; go_simp; with_reducible rfl; rotate_left; simp only [Act.put, sA_, sB_, sC_, i64_w, i32_w]; rfl
         refine pure_ (i := 52) (N := some 4) (v := ?_) (a' := ?_) z53_ rfl rfl (any_of HT_.out (by kernel_rfl)) (fun _ _ _ h => h) (Or.inl ⟨by rfl, ?_⟩) ?_ ?_; rotate_left; intro w'; go_simp; with_reducible rfl; rotate_left; simp only [Act.put, sA_, sB_, sC_, i64_w, i32_w]; rfl
         refine done_ (done_of HT_.out (by kernel_rfl)) ?_
         try go_wp2
         go_ret
         exact ⟨by first | rfl | (simp [errW_none, errW_some] <;> rfl) | (simp [*, errW_none, errW_some] <;> rfl), by repeat (first | (with_reducible first | exact HB.out | apply below_alloc | apply pw_below_drewN | apply below_drew1 | refine below_set ?_ GE313.out | refine below_set ?_ GE338.out | refine below_set ?_ GE346.out | refine below_set ?_ GE354.out | refine below_set ?_ GE358.out) | exact HB.out)⟩
       subst c67
       have H1 : (if (t331 == t339 && (t332 == t340 && (t333 == t341 && (t334 == t342 && (t335 == t343 && (t336 == t344)))))) = true then (if (t337 == t345) = true then (if t347 = t349 then (if (t348 == t350) = true then (if (t351 == t355 && (t352 == t356)) = true then (if (t353 == t357) = true then ((region_Covers.f k3 x6_1 a1_1 a1_2).bind fun t363 => ((flyleafref15_Covers.f k3 x6_1 a1_1 a1_2).bind fun t364 => (if (t363 == t364) = true then ((region_Pages.f k3 x6_1).bind fun t365 => (some (t365 == x22_3))) else (some false)))) else (some false)) else (some false)) else (some false)) else (some false)) else (some false)) else (some false)) = some r := by rw [if_pos rfl] at H; exact H
       clear H
       have H := H1
       clear H1
       by_cases c68 : (t331 == t339 && (t332 == t340 && (t333 == t341 && (t334 == t342 && (t335 == t343 && (t336 == t344)))))) = true
       rotate_left
       · rw [if_neg c68] at H
         have c68b0 : (t331 == t339 && (t332 == t340 && (t333 == t341 && (t334 == t342 && (t335 == t343 && (t336 == t344)))))) = false := by simpa using c68
         (try (have c68b1 : decide (t331 = t339 && (t332 == t340 && (t333 == t341 && (t334 == t342 && (t335 == t343 && (t336 == t344)))))) = false := by simpa using c68))
         (try (have c68b2 : (t331 == t339 && (t332 == t340 && (t333 == t341 && (t334 == t342 && (t335 == t343 && (t336 == t344)))))) = false := by simpa using c68))
         (try (have c68b3 : ¬ (t331 = t339 && (t332 == t340 && (t333 == t341 && (t334 == t342 && (t335 == t343 && (t336 == t344)))))) := by simpa using c68))
         clear c68
         obtain rfl := Option.some.inj H
         obtain ⟨Ao97, co97, eo97⟩ := Kd.R_slice HO_23.out
         subst eo97
         try go_wp2
         have n0_ := Aside0.mk (Kd.R_drew HO_6.out)
         have n1_ := Aside0.mk (Kd.R_drew HO_23.out)
         have n2_ := Aside0.mk (blk_drew BK313.out)
         have n3_ := Aside0.mk (blk_drew BK338.out)
         have n4_ := Aside0.mk (blk_drew BK346.out)
         have n5_ := Aside0.mk (blk_drew BK354.out)
         have n6_ := Aside0.mk (blk_drew BK358.out)
         have n7_ := Aside0.mk (below_drew1 HB.out)
         clear HO_6
         clear HO_23
         clear BK313
         clear BK338
         clear BK346
         clear BK354
         clear BK358
         clear HB
         have HO_6 := n0_
         have HO_23 := n1_
         have BK313 := n2_
         have BK338 := n3_
         have BK346 := n4_
         have BK354 := n5_
         have BK358 := n6_
         have HB := n7_
         clear n0_ n1_ n2_ n3_ n4_ n5_ n6_ n7_
         refine start_ (n := 53) (S := fun w' => w'.cell? ⟨gb338, 0, none⟩ = some (.int .i64 t331) ∧ w'.cell? ⟨gb338, 1, none⟩ = some (.int .i64 t332) ∧ w'.cell? ⟨gb338, 2, none⟩ = some (.int .i64 t333) ∧ w'.cell? ⟨gb338, 3, none⟩ = some (.int .i64 t334) ∧ w'.cell? ⟨gb338, 4, none⟩ = some (.int .i64 t335) ∧ w'.cell? ⟨gb338, 5, none⟩ = some (.int .i64 t336) ∧ w'.cell? ⟨gb346, 0, none⟩ = some (.int .i64 t339) ∧ w'.cell? ⟨gb346, 1, none⟩ = some (.int .i64 t340) ∧ w'.cell? ⟨gb346, 2, none⟩ = some (.int .i64 t341) ∧ w'.cell? ⟨gb346, 3, none⟩ = some (.int .i64 t342) ∧ w'.cell? ⟨gb346, 4, none⟩ = some (.int .i64 t343) ∧ w'.cell? ⟨gb346, 5, none⟩ = some (.int .i64 t344)) (ds := []) z0_ (by kernel_rfl) rfl rfl ⟨(blk_cell BK338.out 0).trans rfl, (blk_cell BK338.out 1).trans rfl, (blk_cell BK338.out 2).trans rfl, (blk_cell BK338.out 3).trans rfl, (blk_cell BK338.out 4).trans rfl, (blk_cell BK338.out 5).trans rfl, (blk_cell BK346.out 0).trans rfl, (blk_cell BK346.out 1).trans rfl, (blk_cell BK346.out 2).trans rfl, (blk_cell BK346.out 3).trans rfl, (blk_cell BK346.out 4).trans rfl, (blk_cell BK346.out 5).trans rfl⟩ (fun hHeld => ?_); refine with_tabW flyleaflaw15_RegionAsks.tab22 flyleaflaw15_RegionAsks.bits22 (fun HT_ HW_ => ?_)
         generalize wr.drew = w98 at HO_6 HO_23 BK313 BK338 BK346 BK354 BK358 HB hHeld ⊢
         refine pure_ (i := 0) (N := some 114) (v := ?_) (a' := ?_) z1_ rfl rfl (any_of HT_.out (by kernel_rfl)) (fun _ _ _ h => h) (Or.inl ⟨by rfl, ?_⟩) ?_ ?_; rotate_left; intro w'; go_simp; with_reducible rfl; rotate_left; simp only [Act.put, sA_, sB_, sC_, i64_w, i32_w]; rfl
         refine pure_ (i := 1) (N := some 115) (v := ?_) (a' := ?_) z2_ rfl rfl (any_of HT_.out (by kernel_rfl)) (fun _ _ _ h => h) (Or.inl ⟨by rfl, ?_⟩) ?_ ?_; rotate_left; intro w'; go_simp; with_reducible rfl; rotate_left; simp only [Act.put, sA_, sB_, sC_, i64_w, i32_w]; rfl
         refine take_ (i := 2) (N := some 116) (v := ?_) (a' := ?_) z3_ rfl rfl (take_ofW HT_.out HW_.out (by kernel_rfl)) (fun _ _ _ h => h) (Or.inl ⟨by rfl, ?_⟩) hHeld ?_ ?_; rotate_left; rintro w' ⟨s0, s1, s2, s3, s4, s5, s6, s7, s8, s9, s10, s11⟩; go_simp; with_reducible rfl; rotate_left; simp only [Act.put, sA_, sB_, sC_, i64_w, i32_w]; rfl
         refine take_ (i := 3) (N := some 117) (v := ?_) (a' := ?_) z4_ rfl rfl (take_ofW HT_.out HW_.out (by kernel_rfl)) (fun _ _ _ h => h) (Or.inl ⟨by rfl, ?_⟩) hHeld ?_ ?_; rotate_left; rintro w' ⟨s0, s1, s2, s3, s4, s5, s6, s7, s8, s9, s10, s11⟩; go_simp; with_reducible rfl; rotate_left; simp only [Act.put, sA_, sB_, sC_, i64_w, i32_w]; rfl
         refine pure_ (i := 4) (N := some 118) (v := ?_) (a' := ?_) z5_ rfl rfl (any_of HT_.out (by kernel_rfl)) (fun _ _ _ h => h) (Or.inl ⟨by rfl, ?_⟩) ?_ ?_; rotate_left; intro w'; go_simp; with_reducible rfl; rotate_left; simp only [Act.put, sA_, sB_, sC_, i64_w, i32_w]; rfl
         refine pure_ (i := 5) (N := some 119) (v := ?_) (a' := ?_) z6_ rfl rfl (any_of HT_.out (by kernel_rfl)) (fun _ _ _ h => h) (Or.inl ⟨by rfl, ?_⟩) ?_ ?_; rotate_left; intro w'; go_simp; with_reducible rfl; rotate_left; simp only [Act.put, sA_, sB_, sC_, i64_w, i32_w]; rfl
         refine pure_ (i := 6) (N := some 120) (v := ?_) (a' := ?_) z7_ rfl rfl (any_of HT_.out (by kernel_rfl)) (fun _ _ _ h => h) (Or.inl ⟨by rfl, ?_⟩) ?_ ?_; rotate_left; intro w'; go_simp; with_reducible rfl; rotate_left; simp only [Act.put, sA_, sB_, sC_, i64_w, i32_w]; rfl
         refine pure_ (i := 7) (N := some 121) (v := undef) (a' := ?_) z8_ rfl rfl (any_of HT_.out (by kernel_rfl)) (fun _ _ _ h => h) (Or.inr ⟨by rfl, rfl⟩) ?_ ?_
         rotate_left
         · simp only [Act.put, sA_, sB_, sC_, i64_w, i32_w]
           rfl
         refine pure_ (i := 8) (N := some 122) (v := undef) (a' := ?_) z9_ rfl rfl (any_of HT_.out (by kernel_rfl)) (fun _ _ _ h => h) (Or.inr ⟨by rfl, rfl⟩) ?_ ?_
         rotate_left
         · simp only [Act.put, sA_, sB_, sC_, i64_w, i32_w]
           rfl
         refine pure_ (i := 9) (N := some 123) (v := undef) (a' := ?_) z10_ rfl rfl (any_of HT_.out (by kernel_rfl)) (fun _ _ _ h => h) (Or.inr ⟨by rfl, rfl⟩) ?_ ?_
         rotate_left
         · simp only [Act.put, sA_, sB_, sC_, i64_w, i32_w]
           rfl
         refine pure_ (i := 10) (N := some 124) (v := ?_) (a' := ?_) z11_ rfl rfl (any_of HT_.out (by kernel_rfl)) (fun _ _ _ h => h) (Or.inl ⟨by rfl, ?_⟩) ?_ ?_; rotate_left; intro w'; go_simp; with_reducible rfl; rotate_left; simp only [Act.put, sA_, sB_, sC_, i64_w, i32_w]; rfl
         refine pure_ (i := 11) (N := some 125) (v := ?_) (a' := ?_) z12_ rfl rfl (any_of HT_.out (by kernel_rfl)) (fun _ _ _ h => h) (Or.inl ⟨by rfl, ?_⟩) ?_ ?_; rotate_left; intro w'; go_simp; with_reducible rfl; rotate_left; simp only [Act.put, sA_, sB_, sC_, i64_w, i32_w]; rfl
         refine pure_ (i := 12) (N := some 126) (v := undef) (a' := ?_) z13_ rfl rfl (any_of HT_.out (by kernel_rfl)) (fun _ _ _ h => h) (Or.inr ⟨by rfl, rfl⟩) ?_ ?_
         rotate_left
         · simp only [Act.put, sA_, sB_, sC_, i64_w, i32_w]
           rfl
         refine pure_ (i := 13) (N := some 127) (v := undef) (a' := ?_) z14_ rfl rfl (any_of HT_.out (by kernel_rfl)) (fun _ _ _ h => h) (Or.inr ⟨by rfl, rfl⟩) ?_ ?_
         rotate_left
         · simp only [Act.put, sA_, sB_, sC_, i64_w, i32_w]
           rfl
         refine pure_ (i := 14) (N := some 128) (v := undef) (a' := ?_) z15_ rfl rfl (any_of HT_.out (by kernel_rfl)) (fun _ _ _ h => h) (Or.inr ⟨by rfl, rfl⟩) ?_ ?_
         rotate_left
         · simp only [Act.put, sA_, sB_, sC_, i64_w, i32_w]
           rfl
         refine pure_ (i := 15) (N := some 129) (v := ?_) (a' := ?_) z16_ rfl rfl (any_of HT_.out (by kernel_rfl)) (fun _ _ _ h => h) (Or.inl ⟨by rfl, ?_⟩) ?_ ?_; rotate_left; intro w'; go_simp; with_reducible rfl; rotate_left; simp only [Act.put, sA_, sB_, sC_, i64_w, i32_w]; rfl
         refine pure_ (i := 16) (N := some 130) (v := ?_) (a' := ?_) z17_ rfl rfl (any_of HT_.out (by kernel_rfl)) (fun _ _ _ h => h) (Or.inl ⟨by rfl, ?_⟩) ?_ ?_; rotate_left; intro w'; go_simp; with_reducible rfl; rotate_left; simp only [Act.put, sA_, sB_, sC_, i64_w, i32_w]; rfl
         refine pure_ (i := 17) (N := some 131) (v := undef) (a' := ?_) z18_ rfl rfl (any_of HT_.out (by kernel_rfl)) (fun _ _ _ h => h) (Or.inr ⟨by rfl, rfl⟩) ?_ ?_
         rotate_left
         · simp only [Act.put, sA_, sB_, sC_, i64_w, i32_w]
           rfl
         refine pure_ (i := 18) (N := some 132) (v := undef) (a' := ?_) z19_ rfl rfl (any_of HT_.out (by kernel_rfl)) (fun _ _ _ h => h) (Or.inr ⟨by rfl, rfl⟩) ?_ ?_
         rotate_left
         · simp only [Act.put, sA_, sB_, sC_, i64_w, i32_w]
           rfl
         refine pure_ (i := 19) (N := some 133) (v := undef) (a' := ?_) z20_ rfl rfl (any_of HT_.out (by kernel_rfl)) (fun _ _ _ h => h) (Or.inr ⟨by rfl, rfl⟩) ?_ ?_
         rotate_left
         · simp only [Act.put, sA_, sB_, sC_, i64_w, i32_w]
           rfl
         refine pure_ (i := 20) (N := some 134) (v := ?_) (a' := ?_) z21_ rfl rfl (any_of HT_.out (by kernel_rfl)) (fun _ _ _ h => h) (Or.inl ⟨by rfl, ?_⟩) ?_ ?_; rotate_left; intro w'; go_simp; with_reducible rfl; rotate_left; simp only [Act.put, sA_, sB_, sC_, i64_w, i32_w]; rfl
         refine pure_ (i := 21) (N := some 135) (v := ?_) (a' := ?_) z22_ rfl rfl (any_of HT_.out (by kernel_rfl)) (fun _ _ _ h => h) (Or.inl ⟨by rfl, ?_⟩) ?_ ?_; rotate_left; intro w'; go_simp; with_reducible rfl; rotate_left; simp only [Act.put, sA_, sB_, sC_, i64_w, i32_w]; rfl
         refine pure_ (i := 22) (N := some 136) (v := undef) (a' := ?_) z23_ rfl rfl (any_of HT_.out (by kernel_rfl)) (fun _ _ _ h => h) (Or.inr ⟨by rfl, rfl⟩) ?_ ?_
         rotate_left
         · simp only [Act.put, sA_, sB_, sC_, i64_w, i32_w]
           rfl
         refine pure_ (i := 23) (N := some 137) (v := undef) (a' := ?_) z24_ rfl rfl (any_of HT_.out (by kernel_rfl)) (fun _ _ _ h => h) (Or.inr ⟨by rfl, rfl⟩) ?_ ?_
         rotate_left
         · simp only [Act.put, sA_, sB_, sC_, i64_w, i32_w]
           rfl
         refine pure_ (i := 24) (N := some 138) (v := undef) (a' := ?_) z25_ rfl rfl (any_of HT_.out (by kernel_rfl)) (fun _ _ _ h => h) (Or.inr ⟨by rfl, rfl⟩) ?_ ?_
         rotate_left
         · simp only [Act.put, sA_, sB_, sC_, i64_w, i32_w]
           rfl
         refine pure_ (i := 25) (N := some 139) (v := ?_) (a' := ?_) z26_ rfl rfl (any_of HT_.out (by kernel_rfl)) (fun _ _ _ h => h) (Or.inl ⟨by rfl, ?_⟩) ?_ ?_; rotate_left; intro w'; go_simp; with_reducible rfl; rotate_left; simp only [Act.put, sA_, sB_, sC_, i64_w, i32_w]; rfl
         refine pure_ (i := 26) (N := some 140) (v := ?_) (a' := ?_) z27_ rfl rfl (any_of HT_.out (by kernel_rfl)) (fun _ _ _ h => h) (Or.inl ⟨by rfl, ?_⟩) ?_ ?_; rotate_left; intro w'; go_simp; with_reducible rfl; rotate_left; simp only [Act.put, sA_, sB_, sC_, i64_w, i32_w]; rfl
         refine pure_ (i := 27) (N := some 141) (v := undef) (a' := ?_) z28_ rfl rfl (any_of HT_.out (by kernel_rfl)) (fun _ _ _ h => h) (Or.inr ⟨by rfl, rfl⟩) ?_ ?_
         rotate_left
         · simp only [Act.put, sA_, sB_, sC_, i64_w, i32_w]
           rfl
         refine pure_ (i := 28) (N := some 142) (v := undef) (a' := ?_) z29_ rfl rfl (any_of HT_.out (by kernel_rfl)) (fun _ _ _ h => h) (Or.inr ⟨by rfl, rfl⟩) ?_ ?_
         rotate_left
         · simp only [Act.put, sA_, sB_, sC_, i64_w, i32_w]
           rfl
         refine pure_ (i := 29) (N := some 143) (v := undef) (a' := ?_) z30_ rfl rfl (any_of HT_.out (by kernel_rfl)) (fun _ _ _ h => h) (Or.inr ⟨by rfl, rfl⟩) ?_ ?_
         rotate_left
         · simp only [Act.put, sA_, sB_, sC_, i64_w, i32_w]
           rfl
         refine pure_ (i := 30) (N := some 144) (v := ?_) (a' := ?_) z31_ rfl rfl (any_of HT_.out (by kernel_rfl)) (fun _ _ _ h => h) (Or.inl ⟨by rfl, ?_⟩) ?_ ?_; rotate_left; intro w'; go_simp; with_reducible rfl; rotate_left; simp only [Act.put, sA_, sB_, sC_, i64_w, i32_w]; rfl
         refine pure_ (i := 31) (N := some 145) (v := ?_) (a' := ?_) z32_ rfl rfl (any_of HT_.out (by kernel_rfl)) (fun _ _ _ h => h) (Or.inl ⟨by rfl, ?_⟩) ?_ ?_; rotate_left; intro w'; go_simp; with_reducible rfl; rotate_left; simp only [Act.put, sA_, sB_, sC_, i64_w, i32_w]; rfl
         refine pure_ (i := 32) (N := some 146) (v := undef) (a' := ?_) z33_ rfl rfl (any_of HT_.out (by kernel_rfl)) (fun _ _ _ h => h) (Or.inr ⟨by rfl, rfl⟩) ?_ ?_
         rotate_left
         · simp only [Act.put, sA_, sB_, sC_, i64_w, i32_w]
           rfl
         refine pure_ (i := 33) (N := some 147) (v := undef) (a' := ?_) z34_ rfl rfl (any_of HT_.out (by kernel_rfl)) (fun _ _ _ h => h) (Or.inr ⟨by rfl, rfl⟩) ?_ ?_
         rotate_left
         · simp only [Act.put, sA_, sB_, sC_, i64_w, i32_w]
           rfl
         refine pure_ (i := 34) (N := some 148) (v := undef) (a' := ?_) z35_ rfl rfl (any_of HT_.out (by kernel_rfl)) (fun _ _ _ h => h) (Or.inr ⟨by rfl, rfl⟩) ?_ ?_
         rotate_left
         · simp only [Act.put, sA_, sB_, sC_, i64_w, i32_w]
           rfl
         refine pure_ (i := 35) (N := some 149) (v := undef) (a' := ?_) z36_ rfl rfl (any_of HT_.out (by kernel_rfl)) (fun _ _ _ h => h) (Or.inr ⟨by rfl, rfl⟩) ?_ ?_
         rotate_left
         · simp only [Act.put, sA_, sB_, sC_, i64_w, i32_w]
           rfl
         refine pure_ (i := 36) (N := some 150) (v := undef) (a' := ?_) z37_ rfl rfl (any_of HT_.out (by kernel_rfl)) (fun _ _ _ h => h) (Or.inr ⟨by rfl, rfl⟩) ?_ ?_
         rotate_left
         · simp only [Act.put, sA_, sB_, sC_, i64_w, i32_w]
           rfl
         refine pure_ (i := 37) (N := some 151) (v := undef) (a' := ?_) z38_ rfl rfl (any_of HT_.out (by kernel_rfl)) (fun _ _ _ h => h) (Or.inr ⟨by rfl, rfl⟩) ?_ ?_
         rotate_left
         · simp only [Act.put, sA_, sB_, sC_, i64_w, i32_w]
           rfl
         refine pure_ (i := 38) (N := some 152) (v := undef) (a' := ?_) z39_ rfl rfl (any_of HT_.out (by kernel_rfl)) (fun _ _ _ h => h) (Or.inr ⟨by rfl, rfl⟩) ?_ ?_
         rotate_left
         · simp only [Act.put, sA_, sB_, sC_, i64_w, i32_w]
           rfl
         refine pure_ (i := 39) (N := some 153) (v := undef) (a' := ?_) z40_ rfl rfl (any_of HT_.out (by kernel_rfl)) (fun _ _ _ h => h) (Or.inr ⟨by rfl, rfl⟩) ?_ ?_
         rotate_left
         · simp only [Act.put, sA_, sB_, sC_, i64_w, i32_w]
           rfl
         refine pure_ (i := 40) (N := some 154) (v := undef) (a' := ?_) z41_ rfl rfl (any_of HT_.out (by kernel_rfl)) (fun _ _ _ h => h) (Or.inr ⟨by rfl, rfl⟩) ?_ ?_
         rotate_left
         · simp only [Act.put, sA_, sB_, sC_, i64_w, i32_w]
           rfl
         refine pure_ (i := 41) (N := some 155) (v := undef) (a' := ?_) z42_ rfl rfl (any_of HT_.out (by kernel_rfl)) (fun _ _ _ h => h) (Or.inr ⟨by rfl, rfl⟩) ?_ ?_
         rotate_left
         · simp only [Act.put, sA_, sB_, sC_, i64_w, i32_w]
           rfl
         refine pure_ (i := 42) (N := some 156) (v := undef) (a' := ?_) z43_ rfl rfl (any_of HT_.out (by kernel_rfl)) (fun _ _ _ h => h) (Or.inr ⟨by rfl, rfl⟩) ?_ ?_
         rotate_left
         · simp only [Act.put, sA_, sB_, sC_, i64_w, i32_w]
           rfl
         refine pure_ (i := 43) (N := some 157) (v := undef) (a' := ?_) z44_ rfl rfl (any_of HT_.out (by kernel_rfl)) (fun _ _ _ h => h) (Or.inr ⟨by rfl, rfl⟩) ?_ ?_
         rotate_left
         · simp only [Act.put, sA_, sB_, sC_, i64_w, i32_w]
           rfl
         refine pure_ (i := 44) (N := some 158) (v := undef) (a' := ?_) z45_ rfl rfl (any_of HT_.out (by kernel_rfl)) (fun _ _ _ h => h) (Or.inr ⟨by rfl, rfl⟩) ?_ ?_
         rotate_left
         · simp only [Act.put, sA_, sB_, sC_, i64_w, i32_w]
           rfl
         refine pure_ (i := 45) (N := some 159) (v := ?_) (a' := ?_) z46_ rfl rfl (any_of HT_.out (by kernel_rfl)) (fun _ _ _ h => h) (Or.inl ⟨by rfl, ?_⟩) ?_ ?_; rotate_left; intro w'; go_simp; with_reducible rfl; rotate_left; simp only [Act.put, sA_, sB_, sC_, i64_w, i32_w]; rfl
         refine pure_ (i := 46) (N := some 160) (v := ?_) (a' := ?_) z47_ rfl rfl (any_of HT_.out (by kernel_rfl)) (fun _ _ _ h => h) (Or.inl ⟨by rfl, ?_⟩) ?_ ?_; rotate_left; intro w'; go_simp; with_reducible rfl; rotate_left; simp only [Act.put, sA_, sB_, sC_, i64_w, i32_w]; rfl
         refine pure_ (i := 47) (N := some 161) (v := undef) (a' := ?_) z48_ rfl rfl (any_of HT_.out (by kernel_rfl)) (fun _ _ _ h => h) (Or.inr ⟨by rfl, rfl⟩) ?_ ?_
         rotate_left
         · simp only [Act.put, sA_, sB_, sC_, i64_w, i32_w]
           rfl
         refine pure_ (i := 48) (N := some 162) (v := undef) (a' := ?_) z49_ rfl rfl (any_of HT_.out (by kernel_rfl)) (fun _ _ _ h => h) (Or.inr ⟨by rfl, rfl⟩) ?_ ?_
         rotate_left
         · simp only [Act.put, sA_, sB_, sC_, i64_w, i32_w]
           rfl
         refine pure_ (i := 49) (N := some 163) (v := undef) (a' := ?_) z50_ rfl rfl (any_of HT_.out (by kernel_rfl)) (fun _ _ _ h => h) (Or.inr ⟨by rfl, rfl⟩) ?_ ?_
         rotate_left
         · simp only [Act.put, sA_, sB_, sC_, i64_w, i32_w]
           rfl
         refine pure_ (i := 50) (N := some 164) (v := undef) (a' := ?_) z51_ rfl rfl (any_of HT_.out (by kernel_rfl)) (fun _ _ _ h => h) (Or.inr ⟨by rfl, rfl⟩) ?_ ?_
         rotate_left
         · simp only [Act.put, sA_, sB_, sC_, i64_w, i32_w]
           rfl
         refine pure_ (i := 51) (N := some 165) (v := ?_) (a' := ?_) z52_ rfl rfl (any_of HT_.out (by kernel_rfl)) (fun _ _ _ h => h) (Or.inl ⟨by rfl, ?_⟩) ?_ ?_; rotate_left; intro w'; go_simp; with_reducible rfl; rotate_left; simp only [Act.put, sA_, sB_, sC_, i64_w, i32_w]; rfl
         refine pure_ (i := 52) (N := some 4) (v := ?_) (a' := ?_) z53_ rfl rfl (any_of HT_.out (by kernel_rfl)) (fun _ _ _ h => h) (Or.inl ⟨by rfl, ?_⟩) ?_ ?_; rotate_left; intro w'; go_simp; with_reducible rfl; rotate_left; simp only [Act.put, sA_, sB_, sC_, i64_w, i32_w]; rfl
         refine done_ (done_of HT_.out (by kernel_rfl)) ?_
         try go_wp2
         go_ret
         exact ⟨by first | rfl | (simp [errW_none, errW_some] <;> rfl) | (simp [*, errW_none, errW_some] <;> rfl), by repeat (first | (with_reducible first | exact HB.out | apply below_alloc | apply pw_below_drewN | apply below_drew1 | refine below_set ?_ GE313.out | refine below_set ?_ GE338.out | refine below_set ?_ GE346.out | refine below_set ?_ GE354.out | refine below_set ?_ GE358.out) | exact HB.out)⟩
       rw [if_pos c68] at H
       have c68b0 : (t331 == t339 && (t332 == t340 && (t333 == t341 && (t334 == t342 && (t335 == t343 && (t336 == t344)))))) = true := c68
       (try (have c68b1 : decide (t331 = t339 && (t332 == t340 && (t333 == t341 && (t334 == t342 && (t335 == t343 && (t336 == t344)))))) = true := by simpa using c68))
       (try (have c68b2 : (t331 == t339 && (t332 == t340 && (t333 == t341 && (t334 == t342 && (t335 == t343 && (t336 == t344)))))) = true := by simpa using c68))
       clear c68
       by_cases c69 : (t337 == t345) = true
       rotate_left
       · rw [if_neg c69] at H
         have c69b0 : (t337 == t345) = false := by simpa using c69
         (try (have c69b1 : decide (t337 = t345) = false := by simpa using c69))
         (try (have c69b2 : (t337 == t345) = false := by simpa using c69))
         (try (have c69b3 : ¬ (t337 = t345) := by simpa using c69))
         clear c69
         obtain rfl := Option.some.inj H
         obtain ⟨Ao95, co95, eo95⟩ := Kd.R_slice HO_23.out
         subst eo95
         try go_wp2
         have n0_ := Aside0.mk (Kd.R_drew HO_6.out)
         have n1_ := Aside0.mk (Kd.R_drew HO_23.out)
         have n2_ := Aside0.mk (blk_drew BK313.out)
         have n3_ := Aside0.mk (blk_drew BK338.out)
         have n4_ := Aside0.mk (blk_drew BK346.out)
         have n5_ := Aside0.mk (blk_drew BK354.out)
         have n6_ := Aside0.mk (blk_drew BK358.out)
         have n7_ := Aside0.mk (below_drew1 HB.out)
         clear HO_6
         clear HO_23
         clear BK313
         clear BK338
         clear BK346
         clear BK354
         clear BK358
         clear HB
         have HO_6 := n0_
         have HO_23 := n1_
         have BK313 := n2_
         have BK338 := n3_
         have BK346 := n4_
         have BK354 := n5_
         have BK358 := n6_
         have HB := n7_
         clear n0_ n1_ n2_ n3_ n4_ n5_ n6_ n7_
         refine start_ (n := 53) (S := fun w' => w'.cell? ⟨gb338, 0, none⟩ = some (.int .i64 t331) ∧ w'.cell? ⟨gb338, 1, none⟩ = some (.int .i64 t332) ∧ w'.cell? ⟨gb338, 2, none⟩ = some (.int .i64 t333) ∧ w'.cell? ⟨gb338, 3, none⟩ = some (.int .i64 t334) ∧ w'.cell? ⟨gb338, 4, none⟩ = some (.int .i64 t335) ∧ w'.cell? ⟨gb338, 5, none⟩ = some (.int .i64 t336) ∧ w'.cell? ⟨gb346, 0, none⟩ = some (.int .i64 t339) ∧ w'.cell? ⟨gb346, 1, none⟩ = some (.int .i64 t340) ∧ w'.cell? ⟨gb346, 2, none⟩ = some (.int .i64 t341) ∧ w'.cell? ⟨gb346, 3, none⟩ = some (.int .i64 t342) ∧ w'.cell? ⟨gb346, 4, none⟩ = some (.int .i64 t343) ∧ w'.cell? ⟨gb346, 5, none⟩ = some (.int .i64 t344)) (ds := []) z0_ (by kernel_rfl) rfl rfl ⟨(blk_cell BK338.out 0).trans rfl, (blk_cell BK338.out 1).trans rfl, (blk_cell BK338.out 2).trans rfl, (blk_cell BK338.out 3).trans rfl, (blk_cell BK338.out 4).trans rfl, (blk_cell BK338.out 5).trans rfl, (blk_cell BK346.out 0).trans rfl, (blk_cell BK346.out 1).trans rfl, (blk_cell BK346.out 2).trans rfl, (blk_cell BK346.out 3).trans rfl, (blk_cell BK346.out 4).trans rfl, (blk_cell BK346.out 5).trans rfl⟩ (fun hHeld => ?_); refine with_tabW flyleaflaw15_RegionAsks.tab22 flyleaflaw15_RegionAsks.bits22 (fun HT_ HW_ => ?_)
         generalize wr.drew = w96 at HO_6 HO_23 BK313 BK338 BK346 BK354 BK358 HB hHeld ⊢
         refine pure_ (i := 0) (N := some 114) (v := ?_) (a' := ?_) z1_ rfl rfl (any_of HT_.out (by kernel_rfl)) (fun _ _ _ h => h) (Or.inl ⟨by rfl, ?_⟩) ?_ ?_; rotate_left; intro w'; go_simp; with_reducible rfl; rotate_left; simp only [Act.put, sA_, sB_, sC_, i64_w, i32_w]; rfl
         refine pure_ (i := 1) (N := some 115) (v := ?_) (a' := ?_) z2_ rfl rfl (any_of HT_.out (by kernel_rfl)) (fun _ _ _ h => h) (Or.inl ⟨by rfl, ?_⟩) ?_ ?_; rotate_left; intro w'; go_simp; with_reducible rfl; rotate_left; simp only [Act.put, sA_, sB_, sC_, i64_w, i32_w]; rfl
         refine take_ (i := 2) (N := some 116) (v := ?_) (a' := ?_) z3_ rfl rfl (take_ofW HT_.out HW_.out (by kernel_rfl)) (fun _ _ _ h => h) (Or.inl ⟨by rfl, ?_⟩) hHeld ?_ ?_; rotate_left; rintro w' ⟨s0, s1, s2, s3, s4, s5, s6, s7, s8, s9, s10, s11⟩; go_simp; with_reducible rfl; rotate_left; simp only [Act.put, sA_, sB_, sC_, i64_w, i32_w]; rfl
         refine take_ (i := 3) (N := some 117) (v := ?_) (a' := ?_) z4_ rfl rfl (take_ofW HT_.out HW_.out (by kernel_rfl)) (fun _ _ _ h => h) (Or.inl ⟨by rfl, ?_⟩) hHeld ?_ ?_; rotate_left; rintro w' ⟨s0, s1, s2, s3, s4, s5, s6, s7, s8, s9, s10, s11⟩; go_simp; with_reducible rfl; rotate_left; simp only [Act.put, sA_, sB_, sC_, i64_w, i32_w]; rfl
         refine pure_ (i := 4) (N := some 118) (v := ?_) (a' := ?_) z5_ rfl rfl (any_of HT_.out (by kernel_rfl)) (fun _ _ _ h => h) (Or.inl ⟨by rfl, ?_⟩) ?_ ?_; rotate_left; intro w'; go_simp; with_reducible rfl; rotate_left; simp only [Act.put, sA_, sB_, sC_, i64_w, i32_w]; rfl
         refine pure_ (i := 5) (N := some 119) (v := ?_) (a' := ?_) z6_ rfl rfl (any_of HT_.out (by kernel_rfl)) (fun _ _ _ h => h) (Or.inl ⟨by rfl, ?_⟩) ?_ ?_; rotate_left; intro w'; go_simp; with_reducible rfl; rotate_left; simp only [Act.put, sA_, sB_, sC_, i64_w, i32_w]; rfl
         refine pure_ (i := 6) (N := some 120) (v := ?_) (a' := ?_) z7_ rfl rfl (any_of HT_.out (by kernel_rfl)) (fun _ _ _ h => h) (Or.inl ⟨by rfl, ?_⟩) ?_ ?_; rotate_left; intro w'; go_simp; with_reducible rfl; rotate_left; simp only [Act.put, sA_, sB_, sC_, i64_w, i32_w]; rfl
         refine pure_ (i := 7) (N := some 121) (v := ?_) (a' := ?_) z8_ rfl rfl (any_of HT_.out (by kernel_rfl)) (fun _ _ _ h => h) (Or.inl ⟨by rfl, ?_⟩) ?_ ?_; rotate_left; intro w'; go_simp; with_reducible rfl; rotate_left; simp only [Act.put, sA_, sB_, sC_, i64_w, i32_w]; rfl
         refine pure_ (i := 8) (N := some 122) (v := ?_) (a' := ?_) z9_ rfl rfl (any_of HT_.out (by kernel_rfl)) (fun _ _ _ h => h) (Or.inl ⟨by rfl, ?_⟩) ?_ ?_; rotate_left; intro w'; go_simp; with_reducible rfl; rotate_left; simp only [Act.put, sA_, sB_, sC_, i64_w, i32_w]; rfl
         refine pure_ (i := 9) (N := some 123) (v := ?_) (a' := ?_) z10_ rfl rfl (any_of HT_.out (by kernel_rfl)) (fun _ _ _ h => h) (Or.inl ⟨by rfl, ?_⟩) ?_ ?_; rotate_left; intro w'; go_simp; with_reducible rfl; rotate_left; simp only [Act.put, sA_, sB_, sC_, i64_w, i32_w]; rfl
         refine pure_ (i := 10) (N := some 124) (v := ?_) (a' := ?_) z11_ rfl rfl (any_of HT_.out (by kernel_rfl)) (fun _ _ _ h => h) (Or.inl ⟨by rfl, ?_⟩) ?_ ?_; rotate_left; intro w'; go_simp; with_reducible rfl; rotate_left; simp only [Act.put, sA_, sB_, sC_, i64_w, i32_w]; rfl
         refine pure_ (i := 11) (N := some 125) (v := ?_) (a' := ?_) z12_ rfl rfl (any_of HT_.out (by kernel_rfl)) (fun _ _ _ h => h) (Or.inl ⟨by rfl, ?_⟩) ?_ ?_; rotate_left; intro w'; go_simp; with_reducible rfl; rotate_left; simp only [Act.put, sA_, sB_, sC_, i64_w, i32_w]; rfl
         refine pure_ (i := 12) (N := some 126) (v := undef) (a' := ?_) z13_ rfl rfl (any_of HT_.out (by kernel_rfl)) (fun _ _ _ h => h) (Or.inr ⟨by rfl, rfl⟩) ?_ ?_
         rotate_left
         · simp only [Act.put, sA_, sB_, sC_, i64_w, i32_w]
           rfl
         refine pure_ (i := 13) (N := some 127) (v := undef) (a' := ?_) z14_ rfl rfl (any_of HT_.out (by kernel_rfl)) (fun _ _ _ h => h) (Or.inr ⟨by rfl, rfl⟩) ?_ ?_
         rotate_left
         · simp only [Act.put, sA_, sB_, sC_, i64_w, i32_w]
           rfl
         refine pure_ (i := 14) (N := some 128) (v := undef) (a' := ?_) z15_ rfl rfl (any_of HT_.out (by kernel_rfl)) (fun _ _ _ h => h) (Or.inr ⟨by rfl, rfl⟩) ?_ ?_
         rotate_left
         · simp only [Act.put, sA_, sB_, sC_, i64_w, i32_w]
           rfl
         refine pure_ (i := 15) (N := some 129) (v := ?_) (a' := ?_) z16_ rfl rfl (any_of HT_.out (by kernel_rfl)) (fun _ _ _ h => h) (Or.inl ⟨by rfl, ?_⟩) ?_ ?_; rotate_left; intro w'; go_simp; with_reducible rfl; rotate_left; simp only [Act.put, sA_, sB_, sC_, i64_w, i32_w]; rfl
         refine pure_ (i := 16) (N := some 130) (v := ?_) (a' := ?_) z17_ rfl rfl (any_of HT_.out (by kernel_rfl)) (fun _ _ _ h => h) (Or.inl ⟨by rfl, ?_⟩) ?_ ?_; rotate_left; intro w'; go_simp; with_reducible rfl; rotate_left; simp only [Act.put, sA_, sB_, sC_, i64_w, i32_w]; rfl
         refine pure_ (i := 17) (N := some 131) (v := undef) (a' := ?_) z18_ rfl rfl (any_of HT_.out (by kernel_rfl)) (fun _ _ _ h => h) (Or.inr ⟨by rfl, rfl⟩) ?_ ?_
         rotate_left
         · simp only [Act.put, sA_, sB_, sC_, i64_w, i32_w]
           rfl
         refine pure_ (i := 18) (N := some 132) (v := undef) (a' := ?_) z19_ rfl rfl (any_of HT_.out (by kernel_rfl)) (fun _ _ _ h => h) (Or.inr ⟨by rfl, rfl⟩) ?_ ?_
         rotate_left
         · simp only [Act.put, sA_, sB_, sC_, i64_w, i32_w]
           rfl
         refine pure_ (i := 19) (N := some 133) (v := undef) (a' := ?_) z20_ rfl rfl (any_of HT_.out (by kernel_rfl)) (fun _ _ _ h => h) (Or.inr ⟨by rfl, rfl⟩) ?_ ?_
         rotate_left
         · simp only [Act.put, sA_, sB_, sC_, i64_w, i32_w]
           rfl
         refine pure_ (i := 20) (N := some 134) (v := ?_) (a' := ?_) z21_ rfl rfl (any_of HT_.out (by kernel_rfl)) (fun _ _ _ h => h) (Or.inl ⟨by rfl, ?_⟩) ?_ ?_; rotate_left; intro w'; go_simp; with_reducible rfl; rotate_left; simp only [Act.put, sA_, sB_, sC_, i64_w, i32_w]; rfl
         refine pure_ (i := 21) (N := some 135) (v := ?_) (a' := ?_) z22_ rfl rfl (any_of HT_.out (by kernel_rfl)) (fun _ _ _ h => h) (Or.inl ⟨by rfl, ?_⟩) ?_ ?_; rotate_left; intro w'; go_simp; with_reducible rfl; rotate_left; simp only [Act.put, sA_, sB_, sC_, i64_w, i32_w]; rfl
         refine pure_ (i := 22) (N := some 136) (v := undef) (a' := ?_) z23_ rfl rfl (any_of HT_.out (by kernel_rfl)) (fun _ _ _ h => h) (Or.inr ⟨by rfl, rfl⟩) ?_ ?_
         rotate_left
         · simp only [Act.put, sA_, sB_, sC_, i64_w, i32_w]
           rfl
         refine pure_ (i := 23) (N := some 137) (v := undef) (a' := ?_) z24_ rfl rfl (any_of HT_.out (by kernel_rfl)) (fun _ _ _ h => h) (Or.inr ⟨by rfl, rfl⟩) ?_ ?_
         rotate_left
         · simp only [Act.put, sA_, sB_, sC_, i64_w, i32_w]
           rfl
         refine pure_ (i := 24) (N := some 138) (v := undef) (a' := ?_) z25_ rfl rfl (any_of HT_.out (by kernel_rfl)) (fun _ _ _ h => h) (Or.inr ⟨by rfl, rfl⟩) ?_ ?_
         rotate_left
         · simp only [Act.put, sA_, sB_, sC_, i64_w, i32_w]
           rfl
         refine pure_ (i := 25) (N := some 139) (v := ?_) (a' := ?_) z26_ rfl rfl (any_of HT_.out (by kernel_rfl)) (fun _ _ _ h => h) (Or.inl ⟨by rfl, ?_⟩) ?_ ?_; rotate_left; intro w'; go_simp; with_reducible rfl; rotate_left; simp only [Act.put, sA_, sB_, sC_, i64_w, i32_w]; rfl
         refine pure_ (i := 26) (N := some 140) (v := ?_) (a' := ?_) z27_ rfl rfl (any_of HT_.out (by kernel_rfl)) (fun _ _ _ h => h) (Or.inl ⟨by rfl, ?_⟩) ?_ ?_; rotate_left; intro w'; go_simp; with_reducible rfl; rotate_left; simp only [Act.put, sA_, sB_, sC_, i64_w, i32_w]; rfl
         refine pure_ (i := 27) (N := some 141) (v := undef) (a' := ?_) z28_ rfl rfl (any_of HT_.out (by kernel_rfl)) (fun _ _ _ h => h) (Or.inr ⟨by rfl, rfl⟩) ?_ ?_
         rotate_left
         · simp only [Act.put, sA_, sB_, sC_, i64_w, i32_w]
           rfl
         refine pure_ (i := 28) (N := some 142) (v := undef) (a' := ?_) z29_ rfl rfl (any_of HT_.out (by kernel_rfl)) (fun _ _ _ h => h) (Or.inr ⟨by rfl, rfl⟩) ?_ ?_
         rotate_left
         · simp only [Act.put, sA_, sB_, sC_, i64_w, i32_w]
           rfl
         refine pure_ (i := 29) (N := some 143) (v := undef) (a' := ?_) z30_ rfl rfl (any_of HT_.out (by kernel_rfl)) (fun _ _ _ h => h) (Or.inr ⟨by rfl, rfl⟩) ?_ ?_
         rotate_left
         · simp only [Act.put, sA_, sB_, sC_, i64_w, i32_w]
           rfl
         refine pure_ (i := 30) (N := some 144) (v := ?_) (a' := ?_) z31_ rfl rfl (any_of HT_.out (by kernel_rfl)) (fun _ _ _ h => h) (Or.inl ⟨by rfl, ?_⟩) ?_ ?_; rotate_left; intro w'; go_simp; with_reducible rfl; rotate_left; simp only [Act.put, sA_, sB_, sC_, i64_w, i32_w]; rfl
         refine pure_ (i := 31) (N := some 145) (v := ?_) (a' := ?_) z32_ rfl rfl (any_of HT_.out (by kernel_rfl)) (fun _ _ _ h => h) (Or.inl ⟨by rfl, ?_⟩) ?_ ?_; rotate_left; intro w'; go_simp; with_reducible rfl; rotate_left; simp only [Act.put, sA_, sB_, sC_, i64_w, i32_w]; rfl
         refine pure_ (i := 32) (N := some 146) (v := undef) (a' := ?_) z33_ rfl rfl (any_of HT_.out (by kernel_rfl)) (fun _ _ _ h => h) (Or.inr ⟨by rfl, rfl⟩) ?_ ?_
         rotate_left
         · simp only [Act.put, sA_, sB_, sC_, i64_w, i32_w]
           rfl
         refine pure_ (i := 33) (N := some 147) (v := undef) (a' := ?_) z34_ rfl rfl (any_of HT_.out (by kernel_rfl)) (fun _ _ _ h => h) (Or.inr ⟨by rfl, rfl⟩) ?_ ?_
         rotate_left
         · simp only [Act.put, sA_, sB_, sC_, i64_w, i32_w]
           rfl
         refine pure_ (i := 34) (N := some 148) (v := undef) (a' := ?_) z35_ rfl rfl (any_of HT_.out (by kernel_rfl)) (fun _ _ _ h => h) (Or.inr ⟨by rfl, rfl⟩) ?_ ?_
         rotate_left
         · simp only [Act.put, sA_, sB_, sC_, i64_w, i32_w]
           rfl
         refine pure_ (i := 35) (N := some 149) (v := undef) (a' := ?_) z36_ rfl rfl (any_of HT_.out (by kernel_rfl)) (fun _ _ _ h => h) (Or.inr ⟨by rfl, rfl⟩) ?_ ?_
         rotate_left
         · simp only [Act.put, sA_, sB_, sC_, i64_w, i32_w]
           rfl
         refine pure_ (i := 36) (N := some 150) (v := undef) (a' := ?_) z37_ rfl rfl (any_of HT_.out (by kernel_rfl)) (fun _ _ _ h => h) (Or.inr ⟨by rfl, rfl⟩) ?_ ?_
         rotate_left
         · simp only [Act.put, sA_, sB_, sC_, i64_w, i32_w]
           rfl
         refine pure_ (i := 37) (N := some 151) (v := undef) (a' := ?_) z38_ rfl rfl (any_of HT_.out (by kernel_rfl)) (fun _ _ _ h => h) (Or.inr ⟨by rfl, rfl⟩) ?_ ?_
         rotate_left
         · simp only [Act.put, sA_, sB_, sC_, i64_w, i32_w]
           rfl
         refine pure_ (i := 38) (N := some 152) (v := undef) (a' := ?_) z39_ rfl rfl (any_of HT_.out (by kernel_rfl)) (fun _ _ _ h => h) (Or.inr ⟨by rfl, rfl⟩) ?_ ?_
         rotate_left
         · simp only [Act.put, sA_, sB_, sC_, i64_w, i32_w]
           rfl
         refine pure_ (i := 39) (N := some 153) (v := undef) (a' := ?_) z40_ rfl rfl (any_of HT_.out (by kernel_rfl)) (fun _ _ _ h => h) (Or.inr ⟨by rfl, rfl⟩) ?_ ?_
         rotate_left
         · simp only [Act.put, sA_, sB_, sC_, i64_w, i32_w]
           rfl
         refine pure_ (i := 40) (N := some 154) (v := undef) (a' := ?_) z41_ rfl rfl (any_of HT_.out (by kernel_rfl)) (fun _ _ _ h => h) (Or.inr ⟨by rfl, rfl⟩) ?_ ?_
         rotate_left
         · simp only [Act.put, sA_, sB_, sC_, i64_w, i32_w]
           rfl
         refine pure_ (i := 41) (N := some 155) (v := undef) (a' := ?_) z42_ rfl rfl (any_of HT_.out (by kernel_rfl)) (fun _ _ _ h => h) (Or.inr ⟨by rfl, rfl⟩) ?_ ?_
         rotate_left
         · simp only [Act.put, sA_, sB_, sC_, i64_w, i32_w]
           rfl
         refine pure_ (i := 42) (N := some 156) (v := undef) (a' := ?_) z43_ rfl rfl (any_of HT_.out (by kernel_rfl)) (fun _ _ _ h => h) (Or.inr ⟨by rfl, rfl⟩) ?_ ?_
         rotate_left
         · simp only [Act.put, sA_, sB_, sC_, i64_w, i32_w]
           rfl
         refine pure_ (i := 43) (N := some 157) (v := undef) (a' := ?_) z44_ rfl rfl (any_of HT_.out (by kernel_rfl)) (fun _ _ _ h => h) (Or.inr ⟨by rfl, rfl⟩) ?_ ?_
         rotate_left
         · simp only [Act.put, sA_, sB_, sC_, i64_w, i32_w]
           rfl
         refine pure_ (i := 44) (N := some 158) (v := undef) (a' := ?_) z45_ rfl rfl (any_of HT_.out (by kernel_rfl)) (fun _ _ _ h => h) (Or.inr ⟨by rfl, rfl⟩) ?_ ?_
         rotate_left
         · simp only [Act.put, sA_, sB_, sC_, i64_w, i32_w]
           rfl
         refine pure_ (i := 45) (N := some 159) (v := ?_) (a' := ?_) z46_ rfl rfl (any_of HT_.out (by kernel_rfl)) (fun _ _ _ h => h) (Or.inl ⟨by rfl, ?_⟩) ?_ ?_; rotate_left; intro w'; go_simp; with_reducible rfl; rotate_left; simp only [Act.put, sA_, sB_, sC_, i64_w, i32_w]; rfl
         refine pure_ (i := 46) (N := some 160) (v := ?_) (a' := ?_) z47_ rfl rfl (any_of HT_.out (by kernel_rfl)) (fun _ _ _ h => h) (Or.inl ⟨by rfl, ?_⟩) ?_ ?_; rotate_left; intro w'; go_simp; with_reducible rfl; rotate_left; simp only [Act.put, sA_, sB_, sC_, i64_w, i32_w]; rfl
         refine pure_ (i := 47) (N := some 161) (v := undef) (a' := ?_) z48_ rfl rfl (any_of HT_.out (by kernel_rfl)) (fun _ _ _ h => h) (Or.inr ⟨by rfl, rfl⟩) ?_ ?_
         rotate_left
         · simp only [Act.put, sA_, sB_, sC_, i64_w, i32_w]
           rfl
         refine pure_ (i := 48) (N := some 162) (v := undef) (a' := ?_) z49_ rfl rfl (any_of HT_.out (by kernel_rfl)) (fun _ _ _ h => h) (Or.inr ⟨by rfl, rfl⟩) ?_ ?_
         rotate_left
         · simp only [Act.put, sA_, sB_, sC_, i64_w, i32_w]
           rfl
         refine pure_ (i := 49) (N := some 163) (v := undef) (a' := ?_) z50_ rfl rfl (any_of HT_.out (by kernel_rfl)) (fun _ _ _ h => h) (Or.inr ⟨by rfl, rfl⟩) ?_ ?_
         rotate_left
         · simp only [Act.put, sA_, sB_, sC_, i64_w, i32_w]
           rfl
         refine pure_ (i := 50) (N := some 164) (v := undef) (a' := ?_) z51_ rfl rfl (any_of HT_.out (by kernel_rfl)) (fun _ _ _ h => h) (Or.inr ⟨by rfl, rfl⟩) ?_ ?_
         rotate_left
         · simp only [Act.put, sA_, sB_, sC_, i64_w, i32_w]
           rfl
         refine pure_ (i := 51) (N := some 165) (v := ?_) (a' := ?_) z52_ rfl rfl (any_of HT_.out (by kernel_rfl)) (fun _ _ _ h => h) (Or.inl ⟨by rfl, ?_⟩) ?_ ?_; rotate_left; intro w'; go_simp; with_reducible rfl; rotate_left; simp only [Act.put, sA_, sB_, sC_, i64_w, i32_w]; rfl
         refine pure_ (i := 52) (N := some 4) (v := ?_) (a' := ?_) z53_ rfl rfl (any_of HT_.out (by kernel_rfl)) (fun _ _ _ h => h) (Or.inl ⟨by rfl, ?_⟩) ?_ ?_; rotate_left; intro w'; go_simp; with_reducible rfl; rotate_left; simp only [Act.put, sA_, sB_, sC_, i64_w, i32_w]; rfl
         refine done_ (done_of HT_.out (by kernel_rfl)) ?_
         try go_wp2
         go_ret
         exact ⟨by first | rfl | (simp [errW_none, errW_some] <;> rfl) | (simp [*, errW_none, errW_some] <;> rfl), by repeat (first | (with_reducible first | exact HB.out | apply below_alloc | apply pw_below_drewN | apply below_drew1 | refine below_set ?_ GE313.out | refine below_set ?_ GE338.out | refine below_set ?_ GE346.out | refine below_set ?_ GE354.out | refine below_set ?_ GE358.out) | exact HB.out)⟩
       rw [if_pos c69] at H
       have c69b0 : (t337 == t345) = true := c69
       (try (have c69b1 : decide (t337 = t345) = true := by simpa using c69))
       (try (have c69b2 : (t337 == t345) = true := by simpa using c69))
       clear c69
       by_cases c70 : t347 = t349
       rotate_left
       · rw [if_neg c70] at H
         have c70b0 : (t347 == t349) = false := beq_eq_false_iff_ne.mpr c70
         have c70b1 : (t347 != t349) = true := bne_iff_ne.mpr c70
         obtain rfl := Option.some.inj H
         obtain ⟨Ao93, co93, eo93⟩ := Kd.R_slice HO_23.out
         subst eo93
         try go_wp2
         have n0_ := Aside0.mk (Kd.R_drew HO_6.out)
         have n1_ := Aside0.mk (Kd.R_drew HO_23.out)
         have n2_ := Aside0.mk (blk_drew BK313.out)
         have n3_ := Aside0.mk (blk_drew BK338.out)
         have n4_ := Aside0.mk (blk_drew BK346.out)
         have n5_ := Aside0.mk (blk_drew BK354.out)
         have n6_ := Aside0.mk (blk_drew BK358.out)
         have n7_ := Aside0.mk (below_drew1 HB.out)
         clear HO_6
         clear HO_23
         clear BK313
         clear BK338
         clear BK346
         clear BK354
         clear BK358
         clear HB
         have HO_6 := n0_
         have HO_23 := n1_
         have BK313 := n2_
         have BK338 := n3_
         have BK346 := n4_
         have BK354 := n5_
         have BK358 := n6_
         have HB := n7_
         clear n0_ n1_ n2_ n3_ n4_ n5_ n6_ n7_
         refine start_ (n := 53) (S := fun w' => w'.cell? ⟨gb338, 0, none⟩ = some (.int .i64 t331) ∧ w'.cell? ⟨gb338, 1, none⟩ = some (.int .i64 t332) ∧ w'.cell? ⟨gb338, 2, none⟩ = some (.int .i64 t333) ∧ w'.cell? ⟨gb338, 3, none⟩ = some (.int .i64 t334) ∧ w'.cell? ⟨gb338, 4, none⟩ = some (.int .i64 t335) ∧ w'.cell? ⟨gb338, 5, none⟩ = some (.int .i64 t336) ∧ w'.cell? ⟨gb346, 0, none⟩ = some (.int .i64 t339) ∧ w'.cell? ⟨gb346, 1, none⟩ = some (.int .i64 t340) ∧ w'.cell? ⟨gb346, 2, none⟩ = some (.int .i64 t341) ∧ w'.cell? ⟨gb346, 3, none⟩ = some (.int .i64 t342) ∧ w'.cell? ⟨gb346, 4, none⟩ = some (.int .i64 t343) ∧ w'.cell? ⟨gb346, 5, none⟩ = some (.int .i64 t344)) (ds := []) z0_ (by kernel_rfl) rfl rfl ⟨(blk_cell BK338.out 0).trans rfl, (blk_cell BK338.out 1).trans rfl, (blk_cell BK338.out 2).trans rfl, (blk_cell BK338.out 3).trans rfl, (blk_cell BK338.out 4).trans rfl, (blk_cell BK338.out 5).trans rfl, (blk_cell BK346.out 0).trans rfl, (blk_cell BK346.out 1).trans rfl, (blk_cell BK346.out 2).trans rfl, (blk_cell BK346.out 3).trans rfl, (blk_cell BK346.out 4).trans rfl, (blk_cell BK346.out 5).trans rfl⟩ (fun hHeld => ?_); refine with_tabW flyleaflaw15_RegionAsks.tab22 flyleaflaw15_RegionAsks.bits22 (fun HT_ HW_ => ?_)
         generalize wr.drew = w94 at HO_6 HO_23 BK313 BK338 BK346 BK354 BK358 HB hHeld ⊢
         refine pure_ (i := 0) (N := some 114) (v := ?_) (a' := ?_) z1_ rfl rfl (any_of HT_.out (by kernel_rfl)) (fun _ _ _ h => h) (Or.inl ⟨by rfl, ?_⟩) ?_ ?_; rotate_left; intro w'; go_simp; with_reducible rfl; rotate_left; simp only [Act.put, sA_, sB_, sC_, i64_w, i32_w]; rfl
         refine pure_ (i := 1) (N := some 115) (v := ?_) (a' := ?_) z2_ rfl rfl (any_of HT_.out (by kernel_rfl)) (fun _ _ _ h => h) (Or.inl ⟨by rfl, ?_⟩) ?_ ?_; rotate_left; intro w'; go_simp; with_reducible rfl; rotate_left; simp only [Act.put, sA_, sB_, sC_, i64_w, i32_w]; rfl
         refine take_ (i := 2) (N := some 116) (v := ?_) (a' := ?_) z3_ rfl rfl (take_ofW HT_.out HW_.out (by kernel_rfl)) (fun _ _ _ h => h) (Or.inl ⟨by rfl, ?_⟩) hHeld ?_ ?_; rotate_left; rintro w' ⟨s0, s1, s2, s3, s4, s5, s6, s7, s8, s9, s10, s11⟩; go_simp; with_reducible rfl; rotate_left; simp only [Act.put, sA_, sB_, sC_, i64_w, i32_w]; rfl
         refine take_ (i := 3) (N := some 117) (v := ?_) (a' := ?_) z4_ rfl rfl (take_ofW HT_.out HW_.out (by kernel_rfl)) (fun _ _ _ h => h) (Or.inl ⟨by rfl, ?_⟩) hHeld ?_ ?_; rotate_left; rintro w' ⟨s0, s1, s2, s3, s4, s5, s6, s7, s8, s9, s10, s11⟩; go_simp; with_reducible rfl; rotate_left; simp only [Act.put, sA_, sB_, sC_, i64_w, i32_w]; rfl
         refine pure_ (i := 4) (N := some 118) (v := ?_) (a' := ?_) z5_ rfl rfl (any_of HT_.out (by kernel_rfl)) (fun _ _ _ h => h) (Or.inl ⟨by rfl, ?_⟩) ?_ ?_; rotate_left; intro w'; go_simp; with_reducible rfl; rotate_left; simp only [Act.put, sA_, sB_, sC_, i64_w, i32_w]; rfl
         refine pure_ (i := 5) (N := some 119) (v := ?_) (a' := ?_) z6_ rfl rfl (any_of HT_.out (by kernel_rfl)) (fun _ _ _ h => h) (Or.inl ⟨by rfl, ?_⟩) ?_ ?_; rotate_left; intro w'; go_simp; with_reducible rfl; rotate_left; simp only [Act.put, sA_, sB_, sC_, i64_w, i32_w]; rfl
         refine pure_ (i := 6) (N := some 120) (v := ?_) (a' := ?_) z7_ rfl rfl (any_of HT_.out (by kernel_rfl)) (fun _ _ _ h => h) (Or.inl ⟨by rfl, ?_⟩) ?_ ?_; rotate_left; intro w'; go_simp; with_reducible rfl; rotate_left; simp only [Act.put, sA_, sB_, sC_, i64_w, i32_w]; rfl
         refine pure_ (i := 7) (N := some 121) (v := ?_) (a' := ?_) z8_ rfl rfl (any_of HT_.out (by kernel_rfl)) (fun _ _ _ h => h) (Or.inl ⟨by rfl, ?_⟩) ?_ ?_; rotate_left; intro w'; go_simp; with_reducible rfl; rotate_left; simp only [Act.put, sA_, sB_, sC_, i64_w, i32_w]; rfl
         refine pure_ (i := 8) (N := some 122) (v := ?_) (a' := ?_) z9_ rfl rfl (any_of HT_.out (by kernel_rfl)) (fun _ _ _ h => h) (Or.inl ⟨by rfl, ?_⟩) ?_ ?_; rotate_left; intro w'; go_simp; with_reducible rfl; rotate_left; simp only [Act.put, sA_, sB_, sC_, i64_w, i32_w]; rfl
         refine pure_ (i := 9) (N := some 123) (v := ?_) (a' := ?_) z10_ rfl rfl (any_of HT_.out (by kernel_rfl)) (fun _ _ _ h => h) (Or.inl ⟨by rfl, ?_⟩) ?_ ?_; rotate_left; intro w'; go_simp; with_reducible rfl; rotate_left; simp only [Act.put, sA_, sB_, sC_, i64_w, i32_w]; rfl
         refine pure_ (i := 10) (N := some 124) (v := ?_) (a' := ?_) z11_ rfl rfl (any_of HT_.out (by kernel_rfl)) (fun _ _ _ h => h) (Or.inl ⟨by rfl, ?_⟩) ?_ ?_; rotate_left; intro w'; go_simp; with_reducible rfl; rotate_left; simp only [Act.put, sA_, sB_, sC_, i64_w, i32_w]; rfl
         refine pure_ (i := 11) (N := some 125) (v := ?_) (a' := ?_) z12_ rfl rfl (any_of HT_.out (by kernel_rfl)) (fun _ _ _ h => h) (Or.inl ⟨by rfl, ?_⟩) ?_ ?_; rotate_left; intro w'; go_simp; with_reducible rfl; rotate_left; simp only [Act.put, sA_, sB_, sC_, i64_w, i32_w]; rfl
         refine pure_ (i := 12) (N := some 126) (v := ?_) (a' := ?_) z13_ rfl rfl (any_of HT_.out (by kernel_rfl)) (fun _ _ _ h => h) (Or.inl ⟨by rfl, ?_⟩) ?_ ?_; rotate_left; intro w'; go_simp; with_reducible rfl; rotate_left; simp only [Act.put, sA_, sB_, sC_, i64_w, i32_w]; rfl
         refine pure_ (i := 13) (N := some 127) (v := ?_) (a' := ?_) z14_ rfl rfl (any_of HT_.out (by kernel_rfl)) (fun _ _ _ h => h) (Or.inl ⟨by rfl, ?_⟩) ?_ ?_; rotate_left; intro w'; go_simp; with_reducible rfl; rotate_left; simp only [Act.put, sA_, sB_, sC_, i64_w, i32_w]; rfl
         refine pure_ (i := 14) (N := some 128) (v := ?_) (a' := ?_) z15_ rfl rfl (any_of HT_.out (by kernel_rfl)) (fun _ _ _ h => h) (Or.inl ⟨by rfl, ?_⟩) ?_ ?_; rotate_left; intro w'; go_simp; with_reducible rfl; rotate_left; simp only [Act.put, sA_, sB_, sC_, i64_w, i32_w]; rfl
         refine pure_ (i := 15) (N := some 129) (v := ?_) (a' := ?_) z16_ rfl rfl (any_of HT_.out (by kernel_rfl)) (fun _ _ _ h => h) (Or.inl ⟨by rfl, ?_⟩) ?_ ?_; rotate_left; intro w'; go_simp; with_reducible rfl; rotate_left; simp only [Act.put, sA_, sB_, sC_, i64_w, i32_w]; rfl
         refine pure_ (i := 16) (N := some 130) (v := ?_) (a' := ?_) z17_ rfl rfl (any_of HT_.out (by kernel_rfl)) (fun _ _ _ h => h) (Or.inl ⟨by rfl, ?_⟩) ?_ ?_; rotate_left; intro w'; go_simp; with_reducible rfl; rotate_left; simp only [Act.put, sA_, sB_, sC_, i64_w, i32_w]; rfl
         refine pure_ (i := 17) (N := some 131) (v := undef) (a' := ?_) z18_ rfl rfl (any_of HT_.out (by kernel_rfl)) (fun _ _ _ h => h) (Or.inr ⟨by rfl, rfl⟩) ?_ ?_
         rotate_left
         · simp only [Act.put, sA_, sB_, sC_, i64_w, i32_w]
           rfl
         refine pure_ (i := 18) (N := some 132) (v := undef) (a' := ?_) z19_ rfl rfl (any_of HT_.out (by kernel_rfl)) (fun _ _ _ h => h) (Or.inr ⟨by rfl, rfl⟩) ?_ ?_
         rotate_left
         · simp only [Act.put, sA_, sB_, sC_, i64_w, i32_w]
           rfl
         refine pure_ (i := 19) (N := some 133) (v := undef) (a' := ?_) z20_ rfl rfl (any_of HT_.out (by kernel_rfl)) (fun _ _ _ h => h) (Or.inr ⟨by rfl, rfl⟩) ?_ ?_
         rotate_left
         · simp only [Act.put, sA_, sB_, sC_, i64_w, i32_w]
           rfl
         refine pure_ (i := 20) (N := some 134) (v := ?_) (a' := ?_) z21_ rfl rfl (any_of HT_.out (by kernel_rfl)) (fun _ _ _ h => h) (Or.inl ⟨by rfl, ?_⟩) ?_ ?_; rotate_left; intro w'; go_simp; with_reducible rfl; rotate_left; simp only [Act.put, sA_, sB_, sC_, i64_w, i32_w]; rfl
         refine pure_ (i := 21) (N := some 135) (v := ?_) (a' := ?_) z22_ rfl rfl (any_of HT_.out (by kernel_rfl)) (fun _ _ _ h => h) (Or.inl ⟨by rfl, ?_⟩) ?_ ?_; rotate_left; intro w'; go_simp; with_reducible rfl; rotate_left; simp only [Act.put, sA_, sB_, sC_, i64_w, i32_w]; rfl
         refine pure_ (i := 22) (N := some 136) (v := undef) (a' := ?_) z23_ rfl rfl (any_of HT_.out (by kernel_rfl)) (fun _ _ _ h => h) (Or.inr ⟨by rfl, rfl⟩) ?_ ?_
         rotate_left
         · simp only [Act.put, sA_, sB_, sC_, i64_w, i32_w]
           rfl
         refine pure_ (i := 23) (N := some 137) (v := undef) (a' := ?_) z24_ rfl rfl (any_of HT_.out (by kernel_rfl)) (fun _ _ _ h => h) (Or.inr ⟨by rfl, rfl⟩) ?_ ?_
         rotate_left
         · simp only [Act.put, sA_, sB_, sC_, i64_w, i32_w]
           rfl
         refine pure_ (i := 24) (N := some 138) (v := undef) (a' := ?_) z25_ rfl rfl (any_of HT_.out (by kernel_rfl)) (fun _ _ _ h => h) (Or.inr ⟨by rfl, rfl⟩) ?_ ?_
         rotate_left
         · simp only [Act.put, sA_, sB_, sC_, i64_w, i32_w]
           rfl
         refine pure_ (i := 25) (N := some 139) (v := ?_) (a' := ?_) z26_ rfl rfl (any_of HT_.out (by kernel_rfl)) (fun _ _ _ h => h) (Or.inl ⟨by rfl, ?_⟩) ?_ ?_; rotate_left; intro w'; go_simp; with_reducible rfl; rotate_left; simp only [Act.put, sA_, sB_, sC_, i64_w, i32_w]; rfl
         refine pure_ (i := 26) (N := some 140) (v := ?_) (a' := ?_) z27_ rfl rfl (any_of HT_.out (by kernel_rfl)) (fun _ _ _ h => h) (Or.inl ⟨by rfl, ?_⟩) ?_ ?_; rotate_left; intro w'; go_simp; with_reducible rfl; rotate_left; simp only [Act.put, sA_, sB_, sC_, i64_w, i32_w]; rfl
         refine pure_ (i := 27) (N := some 141) (v := undef) (a' := ?_) z28_ rfl rfl (any_of HT_.out (by kernel_rfl)) (fun _ _ _ h => h) (Or.inr ⟨by rfl, rfl⟩) ?_ ?_
         rotate_left
         · simp only [Act.put, sA_, sB_, sC_, i64_w, i32_w]
           rfl
         refine pure_ (i := 28) (N := some 142) (v := undef) (a' := ?_) z29_ rfl rfl (any_of HT_.out (by kernel_rfl)) (fun _ _ _ h => h) (Or.inr ⟨by rfl, rfl⟩) ?_ ?_
         rotate_left
         · simp only [Act.put, sA_, sB_, sC_, i64_w, i32_w]
           rfl
         refine pure_ (i := 29) (N := some 143) (v := undef) (a' := ?_) z30_ rfl rfl (any_of HT_.out (by kernel_rfl)) (fun _ _ _ h => h) (Or.inr ⟨by rfl, rfl⟩) ?_ ?_
         rotate_left
         · simp only [Act.put, sA_, sB_, sC_, i64_w, i32_w]
           rfl
         refine pure_ (i := 30) (N := some 144) (v := ?_) (a' := ?_) z31_ rfl rfl (any_of HT_.out (by kernel_rfl)) (fun _ _ _ h => h) (Or.inl ⟨by rfl, ?_⟩) ?_ ?_; rotate_left; intro w'; go_simp; with_reducible rfl; rotate_left; simp only [Act.put, sA_, sB_, sC_, i64_w, i32_w]; rfl
         refine pure_ (i := 31) (N := some 145) (v := ?_) (a' := ?_) z32_ rfl rfl (any_of HT_.out (by kernel_rfl)) (fun _ _ _ h => h) (Or.inl ⟨by rfl, ?_⟩) ?_ ?_; rotate_left; intro w'; go_simp; with_reducible rfl; rotate_left; simp only [Act.put, sA_, sB_, sC_, i64_w, i32_w]; rfl
         refine pure_ (i := 32) (N := some 146) (v := undef) (a' := ?_) z33_ rfl rfl (any_of HT_.out (by kernel_rfl)) (fun _ _ _ h => h) (Or.inr ⟨by rfl, rfl⟩) ?_ ?_
         rotate_left
         · simp only [Act.put, sA_, sB_, sC_, i64_w, i32_w]
           rfl
         refine pure_ (i := 33) (N := some 147) (v := undef) (a' := ?_) z34_ rfl rfl (any_of HT_.out (by kernel_rfl)) (fun _ _ _ h => h) (Or.inr ⟨by rfl, rfl⟩) ?_ ?_
         rotate_left
         · simp only [Act.put, sA_, sB_, sC_, i64_w, i32_w]
           rfl
         refine pure_ (i := 34) (N := some 148) (v := undef) (a' := ?_) z35_ rfl rfl (any_of HT_.out (by kernel_rfl)) (fun _ _ _ h => h) (Or.inr ⟨by rfl, rfl⟩) ?_ ?_
         rotate_left
         · simp only [Act.put, sA_, sB_, sC_, i64_w, i32_w]
           rfl
         refine pure_ (i := 35) (N := some 149) (v := undef) (a' := ?_) z36_ rfl rfl (any_of HT_.out (by kernel_rfl)) (fun _ _ _ h => h) (Or.inr ⟨by rfl, rfl⟩) ?_ ?_
         rotate_left
         · simp only [Act.put, sA_, sB_, sC_, i64_w, i32_w]
           rfl
         refine pure_ (i := 36) (N := some 150) (v := undef) (a' := ?_) z37_ rfl rfl (any_of HT_.out (by kernel_rfl)) (fun _ _ _ h => h) (Or.inr ⟨by rfl, rfl⟩) ?_ ?_
         rotate_left
         · simp only [Act.put, sA_, sB_, sC_, i64_w, i32_w]
           rfl
         refine pure_ (i := 37) (N := some 151) (v := undef) (a' := ?_) z38_ rfl rfl (any_of HT_.out (by kernel_rfl)) (fun _ _ _ h => h) (Or.inr ⟨by rfl, rfl⟩) ?_ ?_
         rotate_left
         · simp only [Act.put, sA_, sB_, sC_, i64_w, i32_w]
           rfl
         refine pure_ (i := 38) (N := some 152) (v := undef) (a' := ?_) z39_ rfl rfl (any_of HT_.out (by kernel_rfl)) (fun _ _ _ h => h) (Or.inr ⟨by rfl, rfl⟩) ?_ ?_
         rotate_left
         · simp only [Act.put, sA_, sB_, sC_, i64_w, i32_w]
           rfl
         refine pure_ (i := 39) (N := some 153) (v := undef) (a' := ?_) z40_ rfl rfl (any_of HT_.out (by kernel_rfl)) (fun _ _ _ h => h) (Or.inr ⟨by rfl, rfl⟩) ?_ ?_
         rotate_left
         · simp only [Act.put, sA_, sB_, sC_, i64_w, i32_w]
           rfl
         refine pure_ (i := 40) (N := some 154) (v := undef) (a' := ?_) z41_ rfl rfl (any_of HT_.out (by kernel_rfl)) (fun _ _ _ h => h) (Or.inr ⟨by rfl, rfl⟩) ?_ ?_
         rotate_left
         · simp only [Act.put, sA_, sB_, sC_, i64_w, i32_w]
           rfl
         refine pure_ (i := 41) (N := some 155) (v := undef) (a' := ?_) z42_ rfl rfl (any_of HT_.out (by kernel_rfl)) (fun _ _ _ h => h) (Or.inr ⟨by rfl, rfl⟩) ?_ ?_
         rotate_left
         · simp only [Act.put, sA_, sB_, sC_, i64_w, i32_w]
           rfl
         refine pure_ (i := 42) (N := some 156) (v := undef) (a' := ?_) z43_ rfl rfl (any_of HT_.out (by kernel_rfl)) (fun _ _ _ h => h) (Or.inr ⟨by rfl, rfl⟩) ?_ ?_
         rotate_left
         · simp only [Act.put, sA_, sB_, sC_, i64_w, i32_w]
           rfl
         refine pure_ (i := 43) (N := some 157) (v := undef) (a' := ?_) z44_ rfl rfl (any_of HT_.out (by kernel_rfl)) (fun _ _ _ h => h) (Or.inr ⟨by rfl, rfl⟩) ?_ ?_
         rotate_left
         · simp only [Act.put, sA_, sB_, sC_, i64_w, i32_w]
           rfl
         refine pure_ (i := 44) (N := some 158) (v := undef) (a' := ?_) z45_ rfl rfl (any_of HT_.out (by kernel_rfl)) (fun _ _ _ h => h) (Or.inr ⟨by rfl, rfl⟩) ?_ ?_
         rotate_left
         · simp only [Act.put, sA_, sB_, sC_, i64_w, i32_w]
           rfl
         refine pure_ (i := 45) (N := some 159) (v := ?_) (a' := ?_) z46_ rfl rfl (any_of HT_.out (by kernel_rfl)) (fun _ _ _ h => h) (Or.inl ⟨by rfl, ?_⟩) ?_ ?_; rotate_left; intro w'; go_simp; with_reducible rfl; rotate_left; simp only [Act.put, sA_, sB_, sC_, i64_w, i32_w]; rfl
         refine pure_ (i := 46) (N := some 160) (v := ?_) (a' := ?_) z47_ rfl rfl (any_of HT_.out (by kernel_rfl)) (fun _ _ _ h => h) (Or.inl ⟨by rfl, ?_⟩) ?_ ?_; rotate_left; intro w'; go_simp; with_reducible rfl; rotate_left; simp only [Act.put, sA_, sB_, sC_, i64_w, i32_w]; rfl
         refine pure_ (i := 47) (N := some 161) (v := undef) (a' := ?_) z48_ rfl rfl (any_of HT_.out (by kernel_rfl)) (fun _ _ _ h => h) (Or.inr ⟨by rfl, rfl⟩) ?_ ?_
         rotate_left
         · simp only [Act.put, sA_, sB_, sC_, i64_w, i32_w]
           rfl
         refine pure_ (i := 48) (N := some 162) (v := undef) (a' := ?_) z49_ rfl rfl (any_of HT_.out (by kernel_rfl)) (fun _ _ _ h => h) (Or.inr ⟨by rfl, rfl⟩) ?_ ?_
         rotate_left
         · simp only [Act.put, sA_, sB_, sC_, i64_w, i32_w]
           rfl
         refine pure_ (i := 49) (N := some 163) (v := undef) (a' := ?_) z50_ rfl rfl (any_of HT_.out (by kernel_rfl)) (fun _ _ _ h => h) (Or.inr ⟨by rfl, rfl⟩) ?_ ?_
         rotate_left
         · simp only [Act.put, sA_, sB_, sC_, i64_w, i32_w]
           rfl
         refine pure_ (i := 50) (N := some 164) (v := undef) (a' := ?_) z51_ rfl rfl (any_of HT_.out (by kernel_rfl)) (fun _ _ _ h => h) (Or.inr ⟨by rfl, rfl⟩) ?_ ?_
         rotate_left
         · simp only [Act.put, sA_, sB_, sC_, i64_w, i32_w]
           rfl
         refine pure_ (i := 51) (N := some 165) (v := ?_) (a' := ?_) z52_ rfl rfl (any_of HT_.out (by kernel_rfl)) (fun _ _ _ h => h) (Or.inl ⟨by rfl, ?_⟩) ?_ ?_; rotate_left; intro w'; go_simp; with_reducible rfl; rotate_left; simp only [Act.put, sA_, sB_, sC_, i64_w, i32_w]; rfl
         refine pure_ (i := 52) (N := some 4) (v := ?_) (a' := ?_) z53_ rfl rfl (any_of HT_.out (by kernel_rfl)) (fun _ _ _ h => h) (Or.inl ⟨by rfl, ?_⟩) ?_ ?_; rotate_left; intro w'; go_simp; with_reducible rfl; rotate_left; simp only [Act.put, sA_, sB_, sC_, i64_w, i32_w]; rfl
         refine done_ (done_of HT_.out (by kernel_rfl)) ?_
         try go_wp2
         go_ret
         exact ⟨by first | rfl | (simp [errW_none, errW_some] <;> rfl) | (simp [*, errW_none, errW_some] <;> rfl), by repeat (first | (with_reducible first | exact HB.out | apply below_alloc | apply pw_below_drewN | apply below_drew1 | refine below_set ?_ GE313.out | refine below_set ?_ GE338.out | refine below_set ?_ GE346.out | refine below_set ?_ GE354.out | refine below_set ?_ GE358.out) | exact HB.out)⟩
       rw [if_pos c70] at H
       have c70b0 : (t347 == t349) = true := beq_iff_eq.mpr c70
       have c70b1 : (t347 != t349) = false := bne_eq_false_iff_eq.mpr c70
       clear c70
       by_cases c71 : (t348 == t350) = true
       rotate_left
       · rw [if_neg c71] at H
         have c71b0 : (t348 == t350) = false := by simpa using c71
         (try (have c71b1 : decide (t348 = t350) = false := by simpa using c71))
         (try (have c71b2 : (t348 == t350) = false := by simpa using c71))
         (try (have c71b3 : ¬ (t348 = t350) := by simpa using c71))
         clear c71
         obtain rfl := Option.some.inj H
         obtain ⟨Ao91, co91, eo91⟩ := Kd.R_slice HO_23.out
         subst eo91
         try go_wp2
         have n0_ := Aside0.mk (Kd.R_drew HO_6.out)
         have n1_ := Aside0.mk (Kd.R_drew HO_23.out)
         have n2_ := Aside0.mk (blk_drew BK313.out)
         have n3_ := Aside0.mk (blk_drew BK338.out)
         have n4_ := Aside0.mk (blk_drew BK346.out)
         have n5_ := Aside0.mk (blk_drew BK354.out)
         have n6_ := Aside0.mk (blk_drew BK358.out)
         have n7_ := Aside0.mk (below_drew1 HB.out)
         clear HO_6
         clear HO_23
         clear BK313
         clear BK338
         clear BK346
         clear BK354
         clear BK358
         clear HB
         have HO_6 := n0_
         have HO_23 := n1_
         have BK313 := n2_
         have BK338 := n3_
         have BK346 := n4_
         have BK354 := n5_
         have BK358 := n6_
         have HB := n7_
         clear n0_ n1_ n2_ n3_ n4_ n5_ n6_ n7_
         refine start_ (n := 53) (S := fun w' => w'.cell? ⟨gb338, 0, none⟩ = some (.int .i64 t331) ∧ w'.cell? ⟨gb338, 1, none⟩ = some (.int .i64 t332) ∧ w'.cell? ⟨gb338, 2, none⟩ = some (.int .i64 t333) ∧ w'.cell? ⟨gb338, 3, none⟩ = some (.int .i64 t334) ∧ w'.cell? ⟨gb338, 4, none⟩ = some (.int .i64 t335) ∧ w'.cell? ⟨gb338, 5, none⟩ = some (.int .i64 t336) ∧ w'.cell? ⟨gb346, 0, none⟩ = some (.int .i64 t339) ∧ w'.cell? ⟨gb346, 1, none⟩ = some (.int .i64 t340) ∧ w'.cell? ⟨gb346, 2, none⟩ = some (.int .i64 t341) ∧ w'.cell? ⟨gb346, 3, none⟩ = some (.int .i64 t342) ∧ w'.cell? ⟨gb346, 4, none⟩ = some (.int .i64 t343) ∧ w'.cell? ⟨gb346, 5, none⟩ = some (.int .i64 t344)) (ds := []) z0_ (by kernel_rfl) rfl rfl ⟨(blk_cell BK338.out 0).trans rfl, (blk_cell BK338.out 1).trans rfl, (blk_cell BK338.out 2).trans rfl, (blk_cell BK338.out 3).trans rfl, (blk_cell BK338.out 4).trans rfl, (blk_cell BK338.out 5).trans rfl, (blk_cell BK346.out 0).trans rfl, (blk_cell BK346.out 1).trans rfl, (blk_cell BK346.out 2).trans rfl, (blk_cell BK346.out 3).trans rfl, (blk_cell BK346.out 4).trans rfl, (blk_cell BK346.out 5).trans rfl⟩ (fun hHeld => ?_); refine with_tabW flyleaflaw15_RegionAsks.tab22 flyleaflaw15_RegionAsks.bits22 (fun HT_ HW_ => ?_)
         generalize wr.drew = w92 at HO_6 HO_23 BK313 BK338 BK346 BK354 BK358 HB hHeld ⊢
         refine pure_ (i := 0) (N := some 114) (v := ?_) (a' := ?_) z1_ rfl rfl (any_of HT_.out (by kernel_rfl)) (fun _ _ _ h => h) (Or.inl ⟨by rfl, ?_⟩) ?_ ?_; rotate_left; intro w'; go_simp; with_reducible rfl; rotate_left; simp only [Act.put, sA_, sB_, sC_, i64_w, i32_w]; rfl
         refine pure_ (i := 1) (N := some 115) (v := ?_) (a' := ?_) z2_ rfl rfl (any_of HT_.out (by kernel_rfl)) (fun _ _ _ h => h) (Or.inl ⟨by rfl, ?_⟩) ?_ ?_; rotate_left; intro w'; go_simp; with_reducible rfl; rotate_left; simp only [Act.put, sA_, sB_, sC_, i64_w, i32_w]; rfl
         refine take_ (i := 2) (N := some 116) (v := ?_) (a' := ?_) z3_ rfl rfl (take_ofW HT_.out HW_.out (by kernel_rfl)) (fun _ _ _ h => h) (Or.inl ⟨by rfl, ?_⟩) hHeld ?_ ?_; rotate_left; rintro w' ⟨s0, s1, s2, s3, s4, s5, s6, s7, s8, s9, s10, s11⟩; go_simp; with_reducible rfl; rotate_left; simp only [Act.put, sA_, sB_, sC_, i64_w, i32_w]; rfl
         refine take_ (i := 3) (N := some 117) (v := ?_) (a' := ?_) z4_ rfl rfl (take_ofW HT_.out HW_.out (by kernel_rfl)) (fun _ _ _ h => h) (Or.inl ⟨by rfl, ?_⟩) hHeld ?_ ?_; rotate_left; rintro w' ⟨s0, s1, s2, s3, s4, s5, s6, s7, s8, s9, s10, s11⟩; go_simp; with_reducible rfl; rotate_left; simp only [Act.put, sA_, sB_, sC_, i64_w, i32_w]; rfl
         refine pure_ (i := 4) (N := some 118) (v := ?_) (a' := ?_) z5_ rfl rfl (any_of HT_.out (by kernel_rfl)) (fun _ _ _ h => h) (Or.inl ⟨by rfl, ?_⟩) ?_ ?_; rotate_left; intro w'; go_simp; with_reducible rfl; rotate_left; simp only [Act.put, sA_, sB_, sC_, i64_w, i32_w]; rfl
         refine pure_ (i := 5) (N := some 119) (v := ?_) (a' := ?_) z6_ rfl rfl (any_of HT_.out (by kernel_rfl)) (fun _ _ _ h => h) (Or.inl ⟨by rfl, ?_⟩) ?_ ?_; rotate_left; intro w'; go_simp; with_reducible rfl; rotate_left; simp only [Act.put, sA_, sB_, sC_, i64_w, i32_w]; rfl
         refine pure_ (i := 6) (N := some 120) (v := ?_) (a' := ?_) z7_ rfl rfl (any_of HT_.out (by kernel_rfl)) (fun _ _ _ h => h) (Or.inl ⟨by rfl, ?_⟩) ?_ ?_; rotate_left; intro w'; go_simp; with_reducible rfl; rotate_left; simp only [Act.put, sA_, sB_, sC_, i64_w, i32_w]; rfl
         refine pure_ (i := 7) (N := some 121) (v := ?_) (a' := ?_) z8_ rfl rfl (any_of HT_.out (by kernel_rfl)) (fun _ _ _ h => h) (Or.inl ⟨by rfl, ?_⟩) ?_ ?_; rotate_left; intro w'; go_simp; with_reducible rfl; rotate_left; simp only [Act.put, sA_, sB_, sC_, i64_w, i32_w]; rfl
         refine pure_ (i := 8) (N := some 122) (v := ?_) (a' := ?_) z9_ rfl rfl (any_of HT_.out (by kernel_rfl)) (fun _ _ _ h => h) (Or.inl ⟨by rfl, ?_⟩) ?_ ?_; rotate_left; intro w'; go_simp; with_reducible rfl; rotate_left; simp only [Act.put, sA_, sB_, sC_, i64_w, i32_w]; rfl
         refine pure_ (i := 9) (N := some 123) (v := ?_) (a' := ?_) z10_ rfl rfl (any_of HT_.out (by kernel_rfl)) (fun _ _ _ h => h) (Or.inl ⟨by rfl, ?_⟩) ?_ ?_; rotate_left; intro w'; go_simp; with_reducible rfl; rotate_left; simp only [Act.put, sA_, sB_, sC_, i64_w, i32_w]; rfl
         refine pure_ (i := 10) (N := some 124) (v := ?_) (a' := ?_) z11_ rfl rfl (any_of HT_.out (by kernel_rfl)) (fun _ _ _ h => h) (Or.inl ⟨by rfl, ?_⟩) ?_ ?_; rotate_left; intro w'; go_simp; with_reducible rfl; rotate_left; simp only [Act.put, sA_, sB_, sC_, i64_w, i32_w]; rfl
         refine pure_ (i := 11) (N := some 125) (v := ?_) (a' := ?_) z12_ rfl rfl (any_of HT_.out (by kernel_rfl)) (fun _ _ _ h => h) (Or.inl ⟨by rfl, ?_⟩) ?_ ?_; rotate_left; intro w'; go_simp; with_reducible rfl; rotate_left; simp only [Act.put, sA_, sB_, sC_, i64_w, i32_w]; rfl
         refine pure_ (i := 12) (N := some 126) (v := ?_) (a' := ?_) z13_ rfl rfl (any_of HT_.out (by kernel_rfl)) (fun _ _ _ h => h) (Or.inl ⟨by rfl, ?_⟩) ?_ ?_; rotate_left; intro w'; go_simp; with_reducible rfl; rotate_left; simp only [Act.put, sA_, sB_, sC_, i64_w, i32_w]; rfl
         refine pure_ (i := 13) (N := some 127) (v := ?_) (a' := ?_) z14_ rfl rfl (any_of HT_.out (by kernel_rfl)) (fun _ _ _ h => h) (Or.inl ⟨by rfl, ?_⟩) ?_ ?_; rotate_left; intro w'; go_simp; with_reducible rfl; rotate_left; simp only [Act.put, sA_, sB_, sC_, i64_w, i32_w]; rfl
         refine pure_ (i := 14) (N := some 128) (v := ?_) (a' := ?_) z15_ rfl rfl (any_of HT_.out (by kernel_rfl)) (fun _ _ _ h => h) (Or.inl ⟨by rfl, ?_⟩) ?_ ?_; rotate_left; intro w'; go_simp; with_reducible rfl; rotate_left; simp only [Act.put, sA_, sB_, sC_, i64_w, i32_w]; rfl
         refine pure_ (i := 15) (N := some 129) (v := ?_) (a' := ?_) z16_ rfl rfl (any_of HT_.out (by kernel_rfl)) (fun _ _ _ h => h) (Or.inl ⟨by rfl, ?_⟩) ?_ ?_; rotate_left; intro w'; go_simp; with_reducible rfl; rotate_left; simp only [Act.put, sA_, sB_, sC_, i64_w, i32_w]; rfl
         refine pure_ (i := 16) (N := some 130) (v := ?_) (a' := ?_) z17_ rfl rfl (any_of HT_.out (by kernel_rfl)) (fun _ _ _ h => h) (Or.inl ⟨by rfl, ?_⟩) ?_ ?_; rotate_left; intro w'; go_simp; with_reducible rfl; rotate_left; simp only [Act.put, sA_, sB_, sC_, i64_w, i32_w]; rfl
         refine pure_ (i := 17) (N := some 131) (v := ?_) (a' := ?_) z18_ rfl rfl (any_of HT_.out (by kernel_rfl)) (fun _ _ _ h => h) (Or.inl ⟨by rfl, ?_⟩) ?_ ?_; rotate_left; intro w'; go_simp; with_reducible rfl; rotate_left; simp only [Act.put, sA_, sB_, sC_, i64_w, i32_w]; rfl
         refine pure_ (i := 18) (N := some 132) (v := ?_) (a' := ?_) z19_ rfl rfl (any_of HT_.out (by kernel_rfl)) (fun _ _ _ h => h) (Or.inl ⟨by rfl, ?_⟩) ?_ ?_; rotate_left; intro w'; go_simp; with_reducible rfl; rotate_left; simp only [Act.put, sA_, sB_, sC_, i64_w, i32_w]; rfl
         refine pure_ (i := 19) (N := some 133) (v := ?_) (a' := ?_) z20_ rfl rfl (any_of HT_.out (by kernel_rfl)) (fun _ _ _ h => h) (Or.inl ⟨by rfl, ?_⟩) ?_ ?_; rotate_left; intro w'; go_simp; with_reducible rfl; rotate_left; simp only [Act.put, sA_, sB_, sC_, i64_w, i32_w]; rfl
         refine pure_ (i := 20) (N := some 134) (v := ?_) (a' := ?_) z21_ rfl rfl (any_of HT_.out (by kernel_rfl)) (fun _ _ _ h => h) (Or.inl ⟨by rfl, ?_⟩) ?_ ?_; rotate_left; intro w'; go_simp; with_reducible rfl; rotate_left; simp only [Act.put, sA_, sB_, sC_, i64_w, i32_w]; rfl
         refine pure_ (i := 21) (N := some 135) (v := ?_) (a' := ?_) z22_ rfl rfl (any_of HT_.out (by kernel_rfl)) (fun _ _ _ h => h) (Or.inl ⟨by rfl, ?_⟩) ?_ ?_; rotate_left; intro w'; go_simp; with_reducible rfl; rotate_left; simp only [Act.put, sA_, sB_, sC_, i64_w, i32_w]; rfl
         refine pure_ (i := 22) (N := some 136) (v := undef) (a' := ?_) z23_ rfl rfl (any_of HT_.out (by kernel_rfl)) (fun _ _ _ h => h) (Or.inr ⟨by rfl, rfl⟩) ?_ ?_
         rotate_left
         · simp only [Act.put, sA_, sB_, sC_, i64_w, i32_w]
           rfl
         refine pure_ (i := 23) (N := some 137) (v := undef) (a' := ?_) z24_ rfl rfl (any_of HT_.out (by kernel_rfl)) (fun _ _ _ h => h) (Or.inr ⟨by rfl, rfl⟩) ?_ ?_
         rotate_left
         · simp only [Act.put, sA_, sB_, sC_, i64_w, i32_w]
           rfl
         refine pure_ (i := 24) (N := some 138) (v := undef) (a' := ?_) z25_ rfl rfl (any_of HT_.out (by kernel_rfl)) (fun _ _ _ h => h) (Or.inr ⟨by rfl, rfl⟩) ?_ ?_
         rotate_left
         · simp only [Act.put, sA_, sB_, sC_, i64_w, i32_w]
           rfl
         refine pure_ (i := 25) (N := some 139) (v := ?_) (a' := ?_) z26_ rfl rfl (any_of HT_.out (by kernel_rfl)) (fun _ _ _ h => h) (Or.inl ⟨by rfl, ?_⟩) ?_ ?_; rotate_left; intro w'; go_simp; with_reducible rfl; rotate_left; simp only [Act.put, sA_, sB_, sC_, i64_w, i32_w]; rfl
         refine pure_ (i := 26) (N := some 140) (v := ?_) (a' := ?_) z27_ rfl rfl (any_of HT_.out (by kernel_rfl)) (fun _ _ _ h => h) (Or.inl ⟨by rfl, ?_⟩) ?_ ?_; rotate_left; intro w'; go_simp; with_reducible rfl; rotate_left; simp only [Act.put, sA_, sB_, sC_, i64_w, i32_w]; rfl
         refine pure_ (i := 27) (N := some 141) (v := undef) (a' := ?_) z28_ rfl rfl (any_of HT_.out (by kernel_rfl)) (fun _ _ _ h => h) (Or.inr ⟨by rfl, rfl⟩) ?_ ?_
         rotate_left
         · simp only [Act.put, sA_, sB_, sC_, i64_w, i32_w]
           rfl
         refine pure_ (i := 28) (N := some 142) (v := undef) (a' := ?_) z29_ rfl rfl (any_of HT_.out (by kernel_rfl)) (fun _ _ _ h => h) (Or.inr ⟨by rfl, rfl⟩) ?_ ?_
         rotate_left
         · simp only [Act.put, sA_, sB_, sC_, i64_w, i32_w]
           rfl
         refine pure_ (i := 29) (N := some 143) (v := undef) (a' := ?_) z30_ rfl rfl (any_of HT_.out (by kernel_rfl)) (fun _ _ _ h => h) (Or.inr ⟨by rfl, rfl⟩) ?_ ?_
         rotate_left
         · simp only [Act.put, sA_, sB_, sC_, i64_w, i32_w]
           rfl
         refine pure_ (i := 30) (N := some 144) (v := ?_) (a' := ?_) z31_ rfl rfl (any_of HT_.out (by kernel_rfl)) (fun _ _ _ h => h) (Or.inl ⟨by rfl, ?_⟩) ?_ ?_; rotate_left; intro w'; go_simp; with_reducible rfl; rotate_left; simp only [Act.put, sA_, sB_, sC_, i64_w, i32_w]; rfl
         refine pure_ (i := 31) (N := some 145) (v := ?_) (a' := ?_) z32_ rfl rfl (any_of HT_.out (by kernel_rfl)) (fun _ _ _ h => h) (Or.inl ⟨by rfl, ?_⟩) ?_ ?_; rotate_left; intro w'; go_simp; with_reducible rfl; rotate_left; simp only [Act.put, sA_, sB_, sC_, i64_w, i32_w]; rfl
         refine pure_ (i := 32) (N := some 146) (v := undef) (a' := ?_) z33_ rfl rfl (any_of HT_.out (by kernel_rfl)) (fun _ _ _ h => h) (Or.inr ⟨by rfl, rfl⟩) ?_ ?_
         rotate_left
         · simp only [Act.put, sA_, sB_, sC_, i64_w, i32_w]
           rfl
         refine pure_ (i := 33) (N := some 147) (v := undef) (a' := ?_) z34_ rfl rfl (any_of HT_.out (by kernel_rfl)) (fun _ _ _ h => h) (Or.inr ⟨by rfl, rfl⟩) ?_ ?_
         rotate_left
         · simp only [Act.put, sA_, sB_, sC_, i64_w, i32_w]
           rfl
         refine pure_ (i := 34) (N := some 148) (v := undef) (a' := ?_) z35_ rfl rfl (any_of HT_.out (by kernel_rfl)) (fun _ _ _ h => h) (Or.inr ⟨by rfl, rfl⟩) ?_ ?_
         rotate_left
         · simp only [Act.put, sA_, sB_, sC_, i64_w, i32_w]
           rfl
         refine pure_ (i := 35) (N := some 149) (v := undef) (a' := ?_) z36_ rfl rfl (any_of HT_.out (by kernel_rfl)) (fun _ _ _ h => h) (Or.inr ⟨by rfl, rfl⟩) ?_ ?_
         rotate_left
         · simp only [Act.put, sA_, sB_, sC_, i64_w, i32_w]
           rfl
         refine pure_ (i := 36) (N := some 150) (v := undef) (a' := ?_) z37_ rfl rfl (any_of HT_.out (by kernel_rfl)) (fun _ _ _ h => h) (Or.inr ⟨by rfl, rfl⟩) ?_ ?_
         rotate_left
         · simp only [Act.put, sA_, sB_, sC_, i64_w, i32_w]
           rfl
         refine pure_ (i := 37) (N := some 151) (v := undef) (a' := ?_) z38_ rfl rfl (any_of HT_.out (by kernel_rfl)) (fun _ _ _ h => h) (Or.inr ⟨by rfl, rfl⟩) ?_ ?_
         rotate_left
         · simp only [Act.put, sA_, sB_, sC_, i64_w, i32_w]
           rfl
         refine pure_ (i := 38) (N := some 152) (v := undef) (a' := ?_) z39_ rfl rfl (any_of HT_.out (by kernel_rfl)) (fun _ _ _ h => h) (Or.inr ⟨by rfl, rfl⟩) ?_ ?_
         rotate_left
         · simp only [Act.put, sA_, sB_, sC_, i64_w, i32_w]
           rfl
         refine pure_ (i := 39) (N := some 153) (v := undef) (a' := ?_) z40_ rfl rfl (any_of HT_.out (by kernel_rfl)) (fun _ _ _ h => h) (Or.inr ⟨by rfl, rfl⟩) ?_ ?_
         rotate_left
         · simp only [Act.put, sA_, sB_, sC_, i64_w, i32_w]
           rfl
         refine pure_ (i := 40) (N := some 154) (v := undef) (a' := ?_) z41_ rfl rfl (any_of HT_.out (by kernel_rfl)) (fun _ _ _ h => h) (Or.inr ⟨by rfl, rfl⟩) ?_ ?_
         rotate_left
         · simp only [Act.put, sA_, sB_, sC_, i64_w, i32_w]
           rfl
         refine pure_ (i := 41) (N := some 155) (v := undef) (a' := ?_) z42_ rfl rfl (any_of HT_.out (by kernel_rfl)) (fun _ _ _ h => h) (Or.inr ⟨by rfl, rfl⟩) ?_ ?_
         rotate_left
         · simp only [Act.put, sA_, sB_, sC_, i64_w, i32_w]
           rfl
         refine pure_ (i := 42) (N := some 156) (v := undef) (a' := ?_) z43_ rfl rfl (any_of HT_.out (by kernel_rfl)) (fun _ _ _ h => h) (Or.inr ⟨by rfl, rfl⟩) ?_ ?_
         rotate_left
         · simp only [Act.put, sA_, sB_, sC_, i64_w, i32_w]
           rfl
         refine pure_ (i := 43) (N := some 157) (v := undef) (a' := ?_) z44_ rfl rfl (any_of HT_.out (by kernel_rfl)) (fun _ _ _ h => h) (Or.inr ⟨by rfl, rfl⟩) ?_ ?_
         rotate_left
         · simp only [Act.put, sA_, sB_, sC_, i64_w, i32_w]
           rfl
         refine pure_ (i := 44) (N := some 158) (v := undef) (a' := ?_) z45_ rfl rfl (any_of HT_.out (by kernel_rfl)) (fun _ _ _ h => h) (Or.inr ⟨by rfl, rfl⟩) ?_ ?_
         rotate_left
         · simp only [Act.put, sA_, sB_, sC_, i64_w, i32_w]
           rfl
         refine pure_ (i := 45) (N := some 159) (v := ?_) (a' := ?_) z46_ rfl rfl (any_of HT_.out (by kernel_rfl)) (fun _ _ _ h => h) (Or.inl ⟨by rfl, ?_⟩) ?_ ?_; rotate_left; intro w'; go_simp; with_reducible rfl; rotate_left; simp only [Act.put, sA_, sB_, sC_, i64_w, i32_w]; rfl
         refine pure_ (i := 46) (N := some 160) (v := ?_) (a' := ?_) z47_ rfl rfl (any_of HT_.out (by kernel_rfl)) (fun _ _ _ h => h) (Or.inl ⟨by rfl, ?_⟩) ?_ ?_; rotate_left; intro w'; go_simp; with_reducible rfl; rotate_left; simp only [Act.put, sA_, sB_, sC_, i64_w, i32_w]; rfl
         refine pure_ (i := 47) (N := some 161) (v := undef) (a' := ?_) z48_ rfl rfl (any_of HT_.out (by kernel_rfl)) (fun _ _ _ h => h) (Or.inr ⟨by rfl, rfl⟩) ?_ ?_
         rotate_left
         · simp only [Act.put, sA_, sB_, sC_, i64_w, i32_w]
           rfl
         refine pure_ (i := 48) (N := some 162) (v := undef) (a' := ?_) z49_ rfl rfl (any_of HT_.out (by kernel_rfl)) (fun _ _ _ h => h) (Or.inr ⟨by rfl, rfl⟩) ?_ ?_
         rotate_left
         · simp only [Act.put, sA_, sB_, sC_, i64_w, i32_w]
           rfl
         refine pure_ (i := 49) (N := some 163) (v := undef) (a' := ?_) z50_ rfl rfl (any_of HT_.out (by kernel_rfl)) (fun _ _ _ h => h) (Or.inr ⟨by rfl, rfl⟩) ?_ ?_
         rotate_left
         · simp only [Act.put, sA_, sB_, sC_, i64_w, i32_w]
           rfl
         refine pure_ (i := 50) (N := some 164) (v := undef) (a' := ?_) z51_ rfl rfl (any_of HT_.out (by kernel_rfl)) (fun _ _ _ h => h) (Or.inr ⟨by rfl, rfl⟩) ?_ ?_
         rotate_left
         · simp only [Act.put, sA_, sB_, sC_, i64_w, i32_w]
           rfl
         refine pure_ (i := 51) (N := some 165) (v := ?_) (a' := ?_) z52_ rfl rfl (any_of HT_.out (by kernel_rfl)) (fun _ _ _ h => h) (Or.inl ⟨by rfl, ?_⟩) ?_ ?_; rotate_left; intro w'; go_simp; with_reducible rfl; rotate_left; simp only [Act.put, sA_, sB_, sC_, i64_w, i32_w]; rfl
         refine pure_ (i := 52) (N := some 4) (v := ?_) (a' := ?_) z53_ rfl rfl (any_of HT_.out (by kernel_rfl)) (fun _ _ _ h => h) (Or.inl ⟨by rfl, ?_⟩) ?_ ?_; rotate_left; intro w'; go_simp; with_reducible rfl; rotate_left; simp only [Act.put, sA_, sB_, sC_, i64_w, i32_w]; rfl
         refine done_ (done_of HT_.out (by kernel_rfl)) ?_
         try go_wp2
         go_ret
         exact ⟨by first | rfl | (simp [errW_none, errW_some] <;> rfl) | (simp [*, errW_none, errW_some] <;> rfl), by repeat (first | (with_reducible first | exact HB.out | apply below_alloc | apply pw_below_drewN | apply below_drew1 | refine below_set ?_ GE313.out | refine below_set ?_ GE338.out | refine below_set ?_ GE346.out | refine below_set ?_ GE354.out | refine below_set ?_ GE358.out) | exact HB.out)⟩
       rw [if_pos c71] at H
       have c71b0 : (t348 == t350) = true := c71
       (try (have c71b1 : decide (t348 = t350) = true := by simpa using c71))
       (try (have c71b2 : (t348 == t350) = true := by simpa using c71))
       clear c71
       by_cases c72 : (t351 == t355 && (t352 == t356)) = true
       rotate_left
       · rw [if_neg c72] at H
         have c72b0 : (t351 == t355 && (t352 == t356)) = false := by simpa using c72
         (try (have c72b1 : decide (t351 = t355 && (t352 == t356)) = false := by simpa using c72))
         (try (have c72b2 : (t351 == t355 && (t352 == t356)) = false := by simpa using c72))
         (try (have c72b3 : ¬ (t351 = t355 && (t352 == t356)) := by simpa using c72))
         clear c72
         obtain rfl := Option.some.inj H
         obtain ⟨Ao89, co89, eo89⟩ := Kd.R_slice HO_23.out
         subst eo89
         try go_wp2
         have n0_ := Aside0.mk (Kd.R_drew HO_6.out)
         have n1_ := Aside0.mk (Kd.R_drew HO_23.out)
         have n2_ := Aside0.mk (blk_drew BK313.out)
         have n3_ := Aside0.mk (blk_drew BK338.out)
         have n4_ := Aside0.mk (blk_drew BK346.out)
         have n5_ := Aside0.mk (blk_drew BK354.out)
         have n6_ := Aside0.mk (blk_drew BK358.out)
         have n7_ := Aside0.mk (below_drew1 HB.out)
         clear HO_6
         clear HO_23
         clear BK313
         clear BK338
         clear BK346
         clear BK354
         clear BK358
         clear HB
         have HO_6 := n0_
         have HO_23 := n1_
         have BK313 := n2_
         have BK338 := n3_
         have BK346 := n4_
         have BK354 := n5_
         have BK358 := n6_
         have HB := n7_
         clear n0_ n1_ n2_ n3_ n4_ n5_ n6_ n7_
         refine start_ (n := 53) (S := fun w' => w'.cell? ⟨gb338, 0, none⟩ = some (.int .i64 t331) ∧ w'.cell? ⟨gb338, 1, none⟩ = some (.int .i64 t332) ∧ w'.cell? ⟨gb338, 2, none⟩ = some (.int .i64 t333) ∧ w'.cell? ⟨gb338, 3, none⟩ = some (.int .i64 t334) ∧ w'.cell? ⟨gb338, 4, none⟩ = some (.int .i64 t335) ∧ w'.cell? ⟨gb338, 5, none⟩ = some (.int .i64 t336) ∧ w'.cell? ⟨gb346, 0, none⟩ = some (.int .i64 t339) ∧ w'.cell? ⟨gb346, 1, none⟩ = some (.int .i64 t340) ∧ w'.cell? ⟨gb346, 2, none⟩ = some (.int .i64 t341) ∧ w'.cell? ⟨gb346, 3, none⟩ = some (.int .i64 t342) ∧ w'.cell? ⟨gb346, 4, none⟩ = some (.int .i64 t343) ∧ w'.cell? ⟨gb346, 5, none⟩ = some (.int .i64 t344) ∧ w'.cell? ⟨gb354, 0, none⟩ = some (.int .i64 t351) ∧ w'.cell? ⟨gb354, 1, none⟩ = some (.int .i64 t352) ∧ w'.cell? ⟨gb358, 0, none⟩ = some (.int .i64 t355) ∧ w'.cell? ⟨gb358, 1, none⟩ = some (.int .i64 t356)) (ds := []) z0_ (by kernel_rfl) rfl rfl ⟨(blk_cell BK338.out 0).trans rfl, (blk_cell BK338.out 1).trans rfl, (blk_cell BK338.out 2).trans rfl, (blk_cell BK338.out 3).trans rfl, (blk_cell BK338.out 4).trans rfl, (blk_cell BK338.out 5).trans rfl, (blk_cell BK346.out 0).trans rfl, (blk_cell BK346.out 1).trans rfl, (blk_cell BK346.out 2).trans rfl, (blk_cell BK346.out 3).trans rfl, (blk_cell BK346.out 4).trans rfl, (blk_cell BK346.out 5).trans rfl, (blk_cell BK354.out 0).trans rfl, (blk_cell BK354.out 1).trans rfl, (blk_cell BK358.out 0).trans rfl, (blk_cell BK358.out 1).trans rfl⟩ (fun hHeld => ?_); refine with_tabW flyleaflaw15_RegionAsks.tab22 flyleaflaw15_RegionAsks.bits22 (fun HT_ HW_ => ?_)
         generalize wr.drew = w90 at HO_6 HO_23 BK313 BK338 BK346 BK354 BK358 HB hHeld ⊢
         refine pure_ (i := 0) (N := some 114) (v := ?_) (a' := ?_) z1_ rfl rfl (any_of HT_.out (by kernel_rfl)) (fun _ _ _ h => h) (Or.inl ⟨by rfl, ?_⟩) ?_ ?_; rotate_left; intro w'; go_simp; with_reducible rfl; rotate_left; simp only [Act.put, sA_, sB_, sC_, i64_w, i32_w]; rfl
         refine pure_ (i := 1) (N := some 115) (v := ?_) (a' := ?_) z2_ rfl rfl (any_of HT_.out (by kernel_rfl)) (fun _ _ _ h => h) (Or.inl ⟨by rfl, ?_⟩) ?_ ?_; rotate_left; intro w'; go_simp; with_reducible rfl; rotate_left; simp only [Act.put, sA_, sB_, sC_, i64_w, i32_w]; rfl
         refine take_ (i := 2) (N := some 116) (v := ?_) (a' := ?_) z3_ rfl rfl (take_ofW HT_.out HW_.out (by kernel_rfl)) (fun _ _ _ h => h) (Or.inl ⟨by rfl, ?_⟩) hHeld ?_ ?_; rotate_left; rintro w' ⟨s0, s1, s2, s3, s4, s5, s6, s7, s8, s9, s10, s11, s12, s13, s14, s15⟩; go_simp; with_reducible rfl; rotate_left; simp only [Act.put, sA_, sB_, sC_, i64_w, i32_w]; rfl
         refine take_ (i := 3) (N := some 117) (v := ?_) (a' := ?_) z4_ rfl rfl (take_ofW HT_.out HW_.out (by kernel_rfl)) (fun _ _ _ h => h) (Or.inl ⟨by rfl, ?_⟩) hHeld ?_ ?_; rotate_left; rintro w' ⟨s0, s1, s2, s3, s4, s5, s6, s7, s8, s9, s10, s11, s12, s13, s14, s15⟩; go_simp; with_reducible rfl; rotate_left; simp only [Act.put, sA_, sB_, sC_, i64_w, i32_w]; rfl
         refine pure_ (i := 4) (N := some 118) (v := ?_) (a' := ?_) z5_ rfl rfl (any_of HT_.out (by kernel_rfl)) (fun _ _ _ h => h) (Or.inl ⟨by rfl, ?_⟩) ?_ ?_; rotate_left; intro w'; go_simp; with_reducible rfl; rotate_left; simp only [Act.put, sA_, sB_, sC_, i64_w, i32_w]; rfl
         refine pure_ (i := 5) (N := some 119) (v := ?_) (a' := ?_) z6_ rfl rfl (any_of HT_.out (by kernel_rfl)) (fun _ _ _ h => h) (Or.inl ⟨by rfl, ?_⟩) ?_ ?_; rotate_left; intro w'; go_simp; with_reducible rfl; rotate_left; simp only [Act.put, sA_, sB_, sC_, i64_w, i32_w]; rfl
         refine pure_ (i := 6) (N := some 120) (v := ?_) (a' := ?_) z7_ rfl rfl (any_of HT_.out (by kernel_rfl)) (fun _ _ _ h => h) (Or.inl ⟨by rfl, ?_⟩) ?_ ?_; rotate_left; intro w'; go_simp; with_reducible rfl; rotate_left; simp only [Act.put, sA_, sB_, sC_, i64_w, i32_w]; rfl
         refine pure_ (i := 7) (N := some 121) (v := ?_) (a' := ?_) z8_ rfl rfl (any_of HT_.out (by kernel_rfl)) (fun _ _ _ h => h) (Or.inl ⟨by rfl, ?_⟩) ?_ ?_; rotate_left; intro w'; go_simp; with_reducible rfl; rotate_left; simp only [Act.put, sA_, sB_, sC_, i64_w, i32_w]; rfl
         refine pure_ (i := 8) (N := some 122) (v := ?_) (a' := ?_) z9_ rfl rfl (any_of HT_.out (by kernel_rfl)) (fun _ _ _ h => h) (Or.inl ⟨by rfl, ?_⟩) ?_ ?_; rotate_left; intro w'; go_simp; with_reducible rfl; rotate_left; simp only [Act.put, sA_, sB_, sC_, i64_w, i32_w]; rfl
         refine pure_ (i := 9) (N := some 123) (v := ?_) (a' := ?_) z10_ rfl rfl (any_of HT_.out (by kernel_rfl)) (fun _ _ _ h => h) (Or.inl ⟨by rfl, ?_⟩) ?_ ?_; rotate_left; intro w'; go_simp; with_reducible rfl; rotate_left; simp only [Act.put, sA_, sB_, sC_, i64_w, i32_w]; rfl
         refine pure_ (i := 10) (N := some 124) (v := ?_) (a' := ?_) z11_ rfl rfl (any_of HT_.out (by kernel_rfl)) (fun _ _ _ h => h) (Or.inl ⟨by rfl, ?_⟩) ?_ ?_; rotate_left; intro w'; go_simp; with_reducible rfl; rotate_left; simp only [Act.put, sA_, sB_, sC_, i64_w, i32_w]; rfl
         refine pure_ (i := 11) (N := some 125) (v := ?_) (a' := ?_) z12_ rfl rfl (any_of HT_.out (by kernel_rfl)) (fun _ _ _ h => h) (Or.inl ⟨by rfl, ?_⟩) ?_ ?_; rotate_left; intro w'; go_simp; with_reducible rfl; rotate_left; simp only [Act.put, sA_, sB_, sC_, i64_w, i32_w]; rfl
         refine pure_ (i := 12) (N := some 126) (v := ?_) (a' := ?_) z13_ rfl rfl (any_of HT_.out (by kernel_rfl)) (fun _ _ _ h => h) (Or.inl ⟨by rfl, ?_⟩) ?_ ?_; rotate_left; intro w'; go_simp; with_reducible rfl; rotate_left; simp only [Act.put, sA_, sB_, sC_, i64_w, i32_w]; rfl
         refine pure_ (i := 13) (N := some 127) (v := ?_) (a' := ?_) z14_ rfl rfl (any_of HT_.out (by kernel_rfl)) (fun _ _ _ h => h) (Or.inl ⟨by rfl, ?_⟩) ?_ ?_; rotate_left; intro w'; go_simp; with_reducible rfl; rotate_left; simp only [Act.put, sA_, sB_, sC_, i64_w, i32_w]; rfl
         refine pure_ (i := 14) (N := some 128) (v := ?_) (a' := ?_) z15_ rfl rfl (any_of HT_.out (by kernel_rfl)) (fun _ _ _ h => h) (Or.inl ⟨by rfl, ?_⟩) ?_ ?_; rotate_left; intro w'; go_simp; with_reducible rfl; rotate_left; simp only [Act.put, sA_, sB_, sC_, i64_w, i32_w]; rfl
         refine pure_ (i := 15) (N := some 129) (v := ?_) (a' := ?_) z16_ rfl rfl (any_of HT_.out (by kernel_rfl)) (fun _ _ _ h => h) (Or.inl ⟨by rfl, ?_⟩) ?_ ?_; rotate_left; intro w'; go_simp; with_reducible rfl; rotate_left; simp only [Act.put, sA_, sB_, sC_, i64_w, i32_w]; rfl
         refine pure_ (i := 16) (N := some 130) (v := ?_) (a' := ?_) z17_ rfl rfl (any_of HT_.out (by kernel_rfl)) (fun _ _ _ h => h) (Or.inl ⟨by rfl, ?_⟩) ?_ ?_; rotate_left; intro w'; go_simp; with_reducible rfl; rotate_left; simp only [Act.put, sA_, sB_, sC_, i64_w, i32_w]; rfl
         refine pure_ (i := 17) (N := some 131) (v := ?_) (a' := ?_) z18_ rfl rfl (any_of HT_.out (by kernel_rfl)) (fun _ _ _ h => h) (Or.inl ⟨by rfl, ?_⟩) ?_ ?_; rotate_left; intro w'; go_simp; with_reducible rfl; rotate_left; simp only [Act.put, sA_, sB_, sC_, i64_w, i32_w]; rfl
         refine pure_ (i := 18) (N := some 132) (v := ?_) (a' := ?_) z19_ rfl rfl (any_of HT_.out (by kernel_rfl)) (fun _ _ _ h => h) (Or.inl ⟨by rfl, ?_⟩) ?_ ?_; rotate_left; intro w'; go_simp; with_reducible rfl; rotate_left; simp only [Act.put, sA_, sB_, sC_, i64_w, i32_w]; rfl
         refine pure_ (i := 19) (N := some 133) (v := ?_) (a' := ?_) z20_ rfl rfl (any_of HT_.out (by kernel_rfl)) (fun _ _ _ h => h) (Or.inl ⟨by rfl, ?_⟩) ?_ ?_; rotate_left; intro w'; go_simp; with_reducible rfl; rotate_left; simp only [Act.put, sA_, sB_, sC_, i64_w, i32_w]; rfl
         refine pure_ (i := 20) (N := some 134) (v := ?_) (a' := ?_) z21_ rfl rfl (any_of HT_.out (by kernel_rfl)) (fun _ _ _ h => h) (Or.inl ⟨by rfl, ?_⟩) ?_ ?_; rotate_left; intro w'; go_simp; with_reducible rfl; rotate_left; simp only [Act.put, sA_, sB_, sC_, i64_w, i32_w]; rfl
         refine pure_ (i := 21) (N := some 135) (v := ?_) (a' := ?_) z22_ rfl rfl (any_of HT_.out (by kernel_rfl)) (fun _ _ _ h => h) (Or.inl ⟨by rfl, ?_⟩) ?_ ?_; rotate_left; intro w'; go_simp; with_reducible rfl; rotate_left; simp only [Act.put, sA_, sB_, sC_, i64_w, i32_w]; rfl
         refine take_ (i := 22) (N := some 136) (v := ?_) (a' := ?_) z23_ rfl rfl (take_ofW HT_.out HW_.out (by kernel_rfl)) (fun _ _ _ h => h) (Or.inl ⟨by rfl, ?_⟩) hHeld ?_ ?_; rotate_left; rintro w' ⟨s0, s1, s2, s3, s4, s5, s6, s7, s8, s9, s10, s11, s12, s13, s14, s15⟩; go_simp; with_reducible rfl; rotate_left; simp only [Act.put, sA_, sB_, sC_, i64_w, i32_w]; rfl
         refine take_ (i := 23) (N := some 137) (v := ?_) (a' := ?_) z24_ rfl rfl (take_ofW HT_.out HW_.out (by kernel_rfl)) (fun _ _ _ h => h) (Or.inl ⟨by rfl, ?_⟩) hHeld ?_ ?_; rotate_left; rintro w' ⟨s0, s1, s2, s3, s4, s5, s6, s7, s8, s9, s10, s11, s12, s13, s14, s15⟩; go_simp; with_reducible rfl; rotate_left; simp only [Act.put, sA_, sB_, sC_, i64_w, i32_w]; rfl
         refine pure_ (i := 24) (N := some 138) (v := ?_) (a' := ?_) z25_ rfl rfl (any_of HT_.out (by kernel_rfl)) (fun _ _ _ h => h) (Or.inl ⟨by rfl, ?_⟩) ?_ ?_; rotate_left; intro w'; go_simp; with_reducible rfl; rotate_left; simp only [Act.put, sA_, sB_, sC_, i64_w, i32_w]; rfl
         refine pure_ (i := 25) (N := some 139) (v := ?_) (a' := ?_) z26_ rfl rfl (any_of HT_.out (by kernel_rfl)) (fun _ _ _ h => h) (Or.inl ⟨by rfl, ?_⟩) ?_ ?_; rotate_left; intro w'; go_simp; with_reducible rfl; rotate_left; simp only [Act.put, sA_, sB_, sC_, i64_w, i32_w]; rfl
         refine pure_ (i := 26) (N := some 140) (v := ?_) (a' := ?_) z27_ rfl rfl (any_of HT_.out (by kernel_rfl)) (fun _ _ _ h => h) (Or.inl ⟨by rfl, ?_⟩) ?_ ?_; rotate_left; intro w'; go_simp; with_reducible rfl; rotate_left; simp only [Act.put, sA_, sB_, sC_, i64_w, i32_w]; rfl
         refine pure_ (i := 27) (N := some 141) (v := undef) (a' := ?_) z28_ rfl rfl (any_of HT_.out (by kernel_rfl)) (fun _ _ _ h => h) (Or.inr ⟨by rfl, rfl⟩) ?_ ?_
         rotate_left
         · simp only [Act.put, sA_, sB_, sC_, i64_w, i32_w]
           rfl
         refine pure_ (i := 28) (N := some 142) (v := undef) (a' := ?_) z29_ rfl rfl (any_of HT_.out (by kernel_rfl)) (fun _ _ _ h => h) (Or.inr ⟨by rfl, rfl⟩) ?_ ?_
         rotate_left
         · simp only [Act.put, sA_, sB_, sC_, i64_w, i32_w]
           rfl
         refine pure_ (i := 29) (N := some 143) (v := undef) (a' := ?_) z30_ rfl rfl (any_of HT_.out (by kernel_rfl)) (fun _ _ _ h => h) (Or.inr ⟨by rfl, rfl⟩) ?_ ?_
         rotate_left
         · simp only [Act.put, sA_, sB_, sC_, i64_w, i32_w]
           rfl
         refine pure_ (i := 30) (N := some 144) (v := ?_) (a' := ?_) z31_ rfl rfl (any_of HT_.out (by kernel_rfl)) (fun _ _ _ h => h) (Or.inl ⟨by rfl, ?_⟩) ?_ ?_; rotate_left; intro w'; go_simp; with_reducible rfl; rotate_left; simp only [Act.put, sA_, sB_, sC_, i64_w, i32_w]; rfl
         refine pure_ (i := 31) (N := some 145) (v := ?_) (a' := ?_) z32_ rfl rfl (any_of HT_.out (by kernel_rfl)) (fun _ _ _ h => h) (Or.inl ⟨by rfl, ?_⟩) ?_ ?_; rotate_left; intro w'; go_simp; with_reducible rfl; rotate_left; simp only [Act.put, sA_, sB_, sC_, i64_w, i32_w]; rfl
         refine pure_ (i := 32) (N := some 146) (v := undef) (a' := ?_) z33_ rfl rfl (any_of HT_.out (by kernel_rfl)) (fun _ _ _ h => h) (Or.inr ⟨by rfl, rfl⟩) ?_ ?_
         rotate_left
         · simp only [Act.put, sA_, sB_, sC_, i64_w, i32_w]
           rfl
         refine pure_ (i := 33) (N := some 147) (v := undef) (a' := ?_) z34_ rfl rfl (any_of HT_.out (by kernel_rfl)) (fun _ _ _ h => h) (Or.inr ⟨by rfl, rfl⟩) ?_ ?_
         rotate_left
         · simp only [Act.put, sA_, sB_, sC_, i64_w, i32_w]
           rfl
         refine pure_ (i := 34) (N := some 148) (v := undef) (a' := ?_) z35_ rfl rfl (any_of HT_.out (by kernel_rfl)) (fun _ _ _ h => h) (Or.inr ⟨by rfl, rfl⟩) ?_ ?_
         rotate_left
         · simp only [Act.put, sA_, sB_, sC_, i64_w, i32_w]
           rfl
         refine pure_ (i := 35) (N := some 149) (v := undef) (a' := ?_) z36_ rfl rfl (any_of HT_.out (by kernel_rfl)) (fun _ _ _ h => h) (Or.inr ⟨by rfl, rfl⟩) ?_ ?_
         rotate_left
         · simp only [Act.put, sA_, sB_, sC_, i64_w, i32_w]
           rfl
         refine pure_ (i := 36) (N := some 150) (v := undef) (a' := ?_) z37_ rfl rfl (any_of HT_.out (by kernel_rfl)) (fun _ _ _ h => h) (Or.inr ⟨by rfl, rfl⟩) ?_ ?_
         rotate_left
         · simp only [Act.put, sA_, sB_, sC_, i64_w, i32_w]
           rfl
         refine pure_ (i := 37) (N := some 151) (v := undef) (a' := ?_) z38_ rfl rfl (any_of HT_.out (by kernel_rfl)) (fun _ _ _ h => h) (Or.inr ⟨by rfl, rfl⟩) ?_ ?_
         rotate_left
         · simp only [Act.put, sA_, sB_, sC_, i64_w, i32_w]
           rfl
         refine pure_ (i := 38) (N := some 152) (v := undef) (a' := ?_) z39_ rfl rfl (any_of HT_.out (by kernel_rfl)) (fun _ _ _ h => h) (Or.inr ⟨by rfl, rfl⟩) ?_ ?_
         rotate_left
         · simp only [Act.put, sA_, sB_, sC_, i64_w, i32_w]
           rfl
         refine pure_ (i := 39) (N := some 153) (v := undef) (a' := ?_) z40_ rfl rfl (any_of HT_.out (by kernel_rfl)) (fun _ _ _ h => h) (Or.inr ⟨by rfl, rfl⟩) ?_ ?_
         rotate_left
         · simp only [Act.put, sA_, sB_, sC_, i64_w, i32_w]
           rfl
         refine pure_ (i := 40) (N := some 154) (v := undef) (a' := ?_) z41_ rfl rfl (any_of HT_.out (by kernel_rfl)) (fun _ _ _ h => h) (Or.inr ⟨by rfl, rfl⟩) ?_ ?_
         rotate_left
         · simp only [Act.put, sA_, sB_, sC_, i64_w, i32_w]
           rfl
         refine pure_ (i := 41) (N := some 155) (v := undef) (a' := ?_) z42_ rfl rfl (any_of HT_.out (by kernel_rfl)) (fun _ _ _ h => h) (Or.inr ⟨by rfl, rfl⟩) ?_ ?_
         rotate_left
         · simp only [Act.put, sA_, sB_, sC_, i64_w, i32_w]
           rfl
         refine pure_ (i := 42) (N := some 156) (v := undef) (a' := ?_) z43_ rfl rfl (any_of HT_.out (by kernel_rfl)) (fun _ _ _ h => h) (Or.inr ⟨by rfl, rfl⟩) ?_ ?_
         rotate_left
         · simp only [Act.put, sA_, sB_, sC_, i64_w, i32_w]
           rfl
         refine pure_ (i := 43) (N := some 157) (v := undef) (a' := ?_) z44_ rfl rfl (any_of HT_.out (by kernel_rfl)) (fun _ _ _ h => h) (Or.inr ⟨by rfl, rfl⟩) ?_ ?_
         rotate_left
         · simp only [Act.put, sA_, sB_, sC_, i64_w, i32_w]
           rfl
         refine pure_ (i := 44) (N := some 158) (v := undef) (a' := ?_) z45_ rfl rfl (any_of HT_.out (by kernel_rfl)) (fun _ _ _ h => h) (Or.inr ⟨by rfl, rfl⟩) ?_ ?_
         rotate_left
         · simp only [Act.put, sA_, sB_, sC_, i64_w, i32_w]
           rfl
         refine pure_ (i := 45) (N := some 159) (v := ?_) (a' := ?_) z46_ rfl rfl (any_of HT_.out (by kernel_rfl)) (fun _ _ _ h => h) (Or.inl ⟨by rfl, ?_⟩) ?_ ?_; rotate_left; intro w'; go_simp; with_reducible rfl; rotate_left; simp only [Act.put, sA_, sB_, sC_, i64_w, i32_w]; rfl
         refine pure_ (i := 46) (N := some 160) (v := ?_) (a' := ?_) z47_ rfl rfl (any_of HT_.out (by kernel_rfl)) (fun _ _ _ h => h) (Or.inl ⟨by rfl, ?_⟩) ?_ ?_; rotate_left; intro w'; go_simp; with_reducible rfl; rotate_left; simp only [Act.put, sA_, sB_, sC_, i64_w, i32_w]; rfl
         refine pure_ (i := 47) (N := some 161) (v := undef) (a' := ?_) z48_ rfl rfl (any_of HT_.out (by kernel_rfl)) (fun _ _ _ h => h) (Or.inr ⟨by rfl, rfl⟩) ?_ ?_
         rotate_left
         · simp only [Act.put, sA_, sB_, sC_, i64_w, i32_w]
           rfl
         refine pure_ (i := 48) (N := some 162) (v := undef) (a' := ?_) z49_ rfl rfl (any_of HT_.out (by kernel_rfl)) (fun _ _ _ h => h) (Or.inr ⟨by rfl, rfl⟩) ?_ ?_
         rotate_left
         · simp only [Act.put, sA_, sB_, sC_, i64_w, i32_w]
           rfl
         refine pure_ (i := 49) (N := some 163) (v := undef) (a' := ?_) z50_ rfl rfl (any_of HT_.out (by kernel_rfl)) (fun _ _ _ h => h) (Or.inr ⟨by rfl, rfl⟩) ?_ ?_
         rotate_left
         · simp only [Act.put, sA_, sB_, sC_, i64_w, i32_w]
           rfl
         refine pure_ (i := 50) (N := some 164) (v := undef) (a' := ?_) z51_ rfl rfl (any_of HT_.out (by kernel_rfl)) (fun _ _ _ h => h) (Or.inr ⟨by rfl, rfl⟩) ?_ ?_
         rotate_left
         · simp only [Act.put, sA_, sB_, sC_, i64_w, i32_w]
           rfl
         refine pure_ (i := 51) (N := some 165) (v := ?_) (a' := ?_) z52_ rfl rfl (any_of HT_.out (by kernel_rfl)) (fun _ _ _ h => h) (Or.inl ⟨by rfl, ?_⟩) ?_ ?_; rotate_left; intro w'; go_simp; with_reducible rfl; rotate_left; simp only [Act.put, sA_, sB_, sC_, i64_w, i32_w]; rfl
         refine pure_ (i := 52) (N := some 4) (v := ?_) (a' := ?_) z53_ rfl rfl (any_of HT_.out (by kernel_rfl)) (fun _ _ _ h => h) (Or.inl ⟨by rfl, ?_⟩) ?_ ?_; rotate_left; intro w'; go_simp; with_reducible rfl; rotate_left; simp only [Act.put, sA_, sB_, sC_, i64_w, i32_w]; rfl
         refine done_ (done_of HT_.out (by kernel_rfl)) ?_
         try go_wp2
         go_ret
         exact ⟨by first | rfl | (simp [errW_none, errW_some] <;> rfl) | (simp [*, errW_none, errW_some] <;> rfl), by repeat (first | (with_reducible first | exact HB.out | apply below_alloc | apply pw_below_drewN | apply below_drew1 | refine below_set ?_ GE313.out | refine below_set ?_ GE338.out | refine below_set ?_ GE346.out | refine below_set ?_ GE354.out | refine below_set ?_ GE358.out) | exact HB.out)⟩
       rw [if_pos c72] at H
       have c72b0 : (t351 == t355 && (t352 == t356)) = true := c72
       (try (have c72b1 : decide (t351 = t355 && (t352 == t356)) = true := by simpa using c72))
       (try (have c72b2 : (t351 == t355 && (t352 == t356)) = true := by simpa using c72))
       clear c72
       by_cases c73 : (t353 == t357) = true
       rotate_left
       · rw [if_neg c73] at H
         have c73b0 : (t353 == t357) = false := by simpa using c73
         (try (have c73b1 : decide (t353 = t357) = false := by simpa using c73))
         (try (have c73b2 : (t353 == t357) = false := by simpa using c73))
         (try (have c73b3 : ¬ (t353 = t357) := by simpa using c73))
         clear c73
         obtain rfl := Option.some.inj H
         obtain ⟨Ao87, co87, eo87⟩ := Kd.R_slice HO_23.out
         subst eo87
         try go_wp2
         have n0_ := Aside0.mk (Kd.R_drew HO_6.out)
         have n1_ := Aside0.mk (Kd.R_drew HO_23.out)
         have n2_ := Aside0.mk (blk_drew BK313.out)
         have n3_ := Aside0.mk (blk_drew BK338.out)
         have n4_ := Aside0.mk (blk_drew BK346.out)
         have n5_ := Aside0.mk (blk_drew BK354.out)
         have n6_ := Aside0.mk (blk_drew BK358.out)
         have n7_ := Aside0.mk (below_drew1 HB.out)
         clear HO_6
         clear HO_23
         clear BK313
         clear BK338
         clear BK346
         clear BK354
         clear BK358
         clear HB
         have HO_6 := n0_
         have HO_23 := n1_
         have BK313 := n2_
         have BK338 := n3_
         have BK346 := n4_
         have BK354 := n5_
         have BK358 := n6_
         have HB := n7_
         clear n0_ n1_ n2_ n3_ n4_ n5_ n6_ n7_
         refine start_ (n := 53) (S := fun w' => w'.cell? ⟨gb338, 0, none⟩ = some (.int .i64 t331) ∧ w'.cell? ⟨gb338, 1, none⟩ = some (.int .i64 t332) ∧ w'.cell? ⟨gb338, 2, none⟩ = some (.int .i64 t333) ∧ w'.cell? ⟨gb338, 3, none⟩ = some (.int .i64 t334) ∧ w'.cell? ⟨gb338, 4, none⟩ = some (.int .i64 t335) ∧ w'.cell? ⟨gb338, 5, none⟩ = some (.int .i64 t336) ∧ w'.cell? ⟨gb346, 0, none⟩ = some (.int .i64 t339) ∧ w'.cell? ⟨gb346, 1, none⟩ = some (.int .i64 t340) ∧ w'.cell? ⟨gb346, 2, none⟩ = some (.int .i64 t341) ∧ w'.cell? ⟨gb346, 3, none⟩ = some (.int .i64 t342) ∧ w'.cell? ⟨gb346, 4, none⟩ = some (.int .i64 t343) ∧ w'.cell? ⟨gb346, 5, none⟩ = some (.int .i64 t344) ∧ w'.cell? ⟨gb354, 0, none⟩ = some (.int .i64 t351) ∧ w'.cell? ⟨gb354, 1, none⟩ = some (.int .i64 t352) ∧ w'.cell? ⟨gb358, 0, none⟩ = some (.int .i64 t355) ∧ w'.cell? ⟨gb358, 1, none⟩ = some (.int .i64 t356)) (ds := []) z0_ (by kernel_rfl) rfl rfl ⟨(blk_cell BK338.out 0).trans rfl, (blk_cell BK338.out 1).trans rfl, (blk_cell BK338.out 2).trans rfl, (blk_cell BK338.out 3).trans rfl, (blk_cell BK338.out 4).trans rfl, (blk_cell BK338.out 5).trans rfl, (blk_cell BK346.out 0).trans rfl, (blk_cell BK346.out 1).trans rfl, (blk_cell BK346.out 2).trans rfl, (blk_cell BK346.out 3).trans rfl, (blk_cell BK346.out 4).trans rfl, (blk_cell BK346.out 5).trans rfl, (blk_cell BK354.out 0).trans rfl, (blk_cell BK354.out 1).trans rfl, (blk_cell BK358.out 0).trans rfl, (blk_cell BK358.out 1).trans rfl⟩ (fun hHeld => ?_); refine with_tabW flyleaflaw15_RegionAsks.tab22 flyleaflaw15_RegionAsks.bits22 (fun HT_ HW_ => ?_)
         generalize wr.drew = w88 at HO_6 HO_23 BK313 BK338 BK346 BK354 BK358 HB hHeld ⊢
         refine pure_ (i := 0) (N := some 114) (v := ?_) (a' := ?_) z1_ rfl rfl (any_of HT_.out (by kernel_rfl)) (fun _ _ _ h => h) (Or.inl ⟨by rfl, ?_⟩) ?_ ?_; rotate_left; intro w'; go_simp; with_reducible rfl; rotate_left; simp only [Act.put, sA_, sB_, sC_, i64_w, i32_w]; rfl
         refine pure_ (i := 1) (N := some 115) (v := ?_) (a' := ?_) z2_ rfl rfl (any_of HT_.out (by kernel_rfl)) (fun _ _ _ h => h) (Or.inl ⟨by rfl, ?_⟩) ?_ ?_; rotate_left; intro w'; go_simp; with_reducible rfl; rotate_left; simp only [Act.put, sA_, sB_, sC_, i64_w, i32_w]; rfl
         refine take_ (i := 2) (N := some 116) (v := ?_) (a' := ?_) z3_ rfl rfl (take_ofW HT_.out HW_.out (by kernel_rfl)) (fun _ _ _ h => h) (Or.inl ⟨by rfl, ?_⟩) hHeld ?_ ?_; rotate_left; rintro w' ⟨s0, s1, s2, s3, s4, s5, s6, s7, s8, s9, s10, s11, s12, s13, s14, s15⟩; go_simp; with_reducible rfl; rotate_left; simp only [Act.put, sA_, sB_, sC_, i64_w, i32_w]; rfl
         refine take_ (i := 3) (N := some 117) (v := ?_) (a' := ?_) z4_ rfl rfl (take_ofW HT_.out HW_.out (by kernel_rfl)) (fun _ _ _ h => h) (Or.inl ⟨by rfl, ?_⟩) hHeld ?_ ?_; rotate_left; rintro w' ⟨s0, s1, s2, s3, s4, s5, s6, s7, s8, s9, s10, s11, s12, s13, s14, s15⟩; go_simp; with_reducible rfl; rotate_left; simp only [Act.put, sA_, sB_, sC_, i64_w, i32_w]; rfl
         refine pure_ (i := 4) (N := some 118) (v := ?_) (a' := ?_) z5_ rfl rfl (any_of HT_.out (by kernel_rfl)) (fun _ _ _ h => h) (Or.inl ⟨by rfl, ?_⟩) ?_ ?_; rotate_left; intro w'; go_simp; with_reducible rfl; rotate_left; simp only [Act.put, sA_, sB_, sC_, i64_w, i32_w]; rfl
         refine pure_ (i := 5) (N := some 119) (v := ?_) (a' := ?_) z6_ rfl rfl (any_of HT_.out (by kernel_rfl)) (fun _ _ _ h => h) (Or.inl ⟨by rfl, ?_⟩) ?_ ?_; rotate_left; intro w'; go_simp; with_reducible rfl; rotate_left; simp only [Act.put, sA_, sB_, sC_, i64_w, i32_w]; rfl
         refine pure_ (i := 6) (N := some 120) (v := ?_) (a' := ?_) z7_ rfl rfl (any_of HT_.out (by kernel_rfl)) (fun _ _ _ h => h) (Or.inl ⟨by rfl, ?_⟩) ?_ ?_; rotate_left; intro w'; go_simp; with_reducible rfl; rotate_left; simp only [Act.put, sA_, sB_, sC_, i64_w, i32_w]; rfl
         refine pure_ (i := 7) (N := some 121) (v := ?_) (a' := ?_) z8_ rfl rfl (any_of HT_.out (by kernel_rfl)) (fun _ _ _ h => h) (Or.inl ⟨by rfl, ?_⟩) ?_ ?_; rotate_left; intro w'; go_simp; with_reducible rfl; rotate_left; simp only [Act.put, sA_, sB_, sC_, i64_w, i32_w]; rfl
         refine pure_ (i := 8) (N := some 122) (v := ?_) (a' := ?_) z9_ rfl rfl (any_of HT_.out (by kernel_rfl)) (fun _ _ _ h => h) (Or.inl ⟨by rfl, ?_⟩) ?_ ?_; rotate_left; intro w'; go_simp; with_reducible rfl; rotate_left; simp only [Act.put, sA_, sB_, sC_, i64_w, i32_w]; rfl
         refine pure_ (i := 9) (N := some 123) (v := ?_) (a' := ?_) z10_ rfl rfl (any_of HT_.out (by kernel_rfl)) (fun _ _ _ h => h) (Or.inl ⟨by rfl, ?_⟩) ?_ ?_; rotate_left; intro w'; go_simp; with_reducible rfl; rotate_left; simp only [Act.put, sA_, sB_, sC_, i64_w, i32_w]; rfl
         refine pure_ (i := 10) (N := some 124) (v := ?_) (a' := ?_) z11_ rfl rfl (any_of HT_.out (by kernel_rfl)) (fun _ _ _ h => h) (Or.inl ⟨by rfl, ?_⟩) ?_ ?_; rotate_left; intro w'; go_simp; with_reducible rfl; rotate_left; simp only [Act.put, sA_, sB_, sC_, i64_w, i32_w]; rfl
         refine pure_ (i := 11) (N := some 125) (v := ?_) (a' := ?_) z12_ rfl rfl (any_of HT_.out (by kernel_rfl)) (fun _ _ _ h => h) (Or.inl ⟨by rfl, ?_⟩) ?_ ?_; rotate_left; intro w'; go_simp; with_reducible rfl; rotate_left; simp only [Act.put, sA_, sB_, sC_, i64_w, i32_w]; rfl
         refine pure_ (i := 12) (N := some 126) (v := ?_) (a' := ?_) z13_ rfl rfl (any_of HT_.out (by kernel_rfl)) (fun _ _ _ h => h) (Or.inl ⟨by rfl, ?_⟩) ?_ ?_; rotate_left; intro w'; go_simp; with_reducible rfl; rotate_left; simp only [Act.put, sA_, sB_, sC_, i64_w, i32_w]; rfl
         refine pure_ (i := 13) (N := some 127) (v := ?_) (a' := ?_) z14_ rfl rfl (any_of HT_.out (by kernel_rfl)) (fun _ _ _ h => h) (Or.inl ⟨by rfl, ?_⟩) ?_ ?_; rotate_left; intro w'; go_simp; with_reducible rfl; rotate_left; simp only [Act.put, sA_, sB_, sC_, i64_w, i32_w]; rfl
         refine pure_ (i := 14) (N := some 128) (v := ?_) (a' := ?_) z15_ rfl rfl (any_of HT_.out (by kernel_rfl)) (fun _ _ _ h => h) (Or.inl ⟨by rfl, ?_⟩) ?_ ?_; rotate_left; intro w'; go_simp; with_reducible rfl; rotate_left; simp only [Act.put, sA_, sB_, sC_, i64_w, i32_w]; rfl
         refine pure_ (i := 15) (N := some 129) (v := ?_) (a' := ?_) z16_ rfl rfl (any_of HT_.out (by kernel_rfl)) (fun _ _ _ h => h) (Or.inl ⟨by rfl, ?_⟩) ?_ ?_; rotate_left; intro w'; go_simp; with_reducible rfl; rotate_left; simp only [Act.put, sA_, sB_, sC_, i64_w, i32_w]; rfl
         refine pure_ (i := 16) (N := some 130) (v := ?_) (a' := ?_) z17_ rfl rfl (any_of HT_.out (by kernel_rfl)) (fun _ _ _ h => h) (Or.inl ⟨by rfl, ?_⟩) ?_ ?_; rotate_left; intro w'; go_simp; with_reducible rfl; rotate_left; simp only [Act.put, sA_, sB_, sC_, i64_w, i32_w]; rfl
         refine pure_ (i := 17) (N := some 131) (v := ?_) (a' := ?_) z18_ rfl rfl (any_of HT_.out (by kernel_rfl)) (fun _ _ _ h => h) (Or.inl ⟨by rfl, ?_⟩) ?_ ?_; rotate_left; intro w'; go_simp; with_reducible rfl; rotate_left; simp only [Act.put, sA_, sB_, sC_, i64_w, i32_w]; rfl
         refine pure_ (i := 18) (N := some 132) (v := ?_) (a' := ?_) z19_ rfl rfl (any_of HT_.out (by kernel_rfl)) (fun _ _ _ h => h) (Or.inl ⟨by rfl, ?_⟩) ?_ ?_; rotate_left; intro w'; go_simp; with_reducible rfl; rotate_left; simp only [Act.put, sA_, sB_, sC_, i64_w, i32_w]; rfl
         refine pure_ (i := 19) (N := some 133) (v := ?_) (a' := ?_) z20_ rfl rfl (any_of HT_.out (by kernel_rfl)) (fun _ _ _ h => h) (Or.inl ⟨by rfl, ?_⟩) ?_ ?_; rotate_left; intro w'; go_simp; with_reducible rfl; rotate_left; simp only [Act.put, sA_, sB_, sC_, i64_w, i32_w]; rfl
         refine pure_ (i := 20) (N := some 134) (v := ?_) (a' := ?_) z21_ rfl rfl (any_of HT_.out (by kernel_rfl)) (fun _ _ _ h => h) (Or.inl ⟨by rfl, ?_⟩) ?_ ?_; rotate_left; intro w'; go_simp; with_reducible rfl; rotate_left; simp only [Act.put, sA_, sB_, sC_, i64_w, i32_w]; rfl
         refine pure_ (i := 21) (N := some 135) (v := ?_) (a' := ?_) z22_ rfl rfl (any_of HT_.out (by kernel_rfl)) (fun _ _ _ h => h) (Or.inl ⟨by rfl, ?_⟩) ?_ ?_; rotate_left; intro w'; go_simp; with_reducible rfl; rotate_left; simp only [Act.put, sA_, sB_, sC_, i64_w, i32_w]; rfl
         refine take_ (i := 22) (N := some 136) (v := ?_) (a' := ?_) z23_ rfl rfl (take_ofW HT_.out HW_.out (by kernel_rfl)) (fun _ _ _ h => h) (Or.inl ⟨by rfl, ?_⟩) hHeld ?_ ?_; rotate_left; rintro w' ⟨s0, s1, s2, s3, s4, s5, s6, s7, s8, s9, s10, s11, s12, s13, s14, s15⟩; go_simp; with_reducible rfl; rotate_left; simp only [Act.put, sA_, sB_, sC_, i64_w, i32_w]; rfl
         refine take_ (i := 23) (N := some 137) (v := ?_) (a' := ?_) z24_ rfl rfl (take_ofW HT_.out HW_.out (by kernel_rfl)) (fun _ _ _ h => h) (Or.inl ⟨by rfl, ?_⟩) hHeld ?_ ?_; rotate_left; rintro w' ⟨s0, s1, s2, s3, s4, s5, s6, s7, s8, s9, s10, s11, s12, s13, s14, s15⟩; go_simp; with_reducible rfl; rotate_left; simp only [Act.put, sA_, sB_, sC_, i64_w, i32_w]; rfl
         refine pure_ (i := 24) (N := some 138) (v := ?_) (a' := ?_) z25_ rfl rfl (any_of HT_.out (by kernel_rfl)) (fun _ _ _ h => h) (Or.inl ⟨by rfl, ?_⟩) ?_ ?_; rotate_left; intro w'; go_simp; with_reducible rfl; rotate_left; simp only [Act.put, sA_, sB_, sC_, i64_w, i32_w]; rfl
         refine pure_ (i := 25) (N := some 139) (v := ?_) (a' := ?_) z26_ rfl rfl (any_of HT_.out (by kernel_rfl)) (fun _ _ _ h => h) (Or.inl ⟨by rfl, ?_⟩) ?_ ?_; rotate_left; intro w'; go_simp; with_reducible rfl; rotate_left; simp only [Act.put, sA_, sB_, sC_, i64_w, i32_w]; rfl
         refine pure_ (i := 26) (N := some 140) (v := ?_) (a' := ?_) z27_ rfl rfl (any_of HT_.out (by kernel_rfl)) (fun _ _ _ h => h) (Or.inl ⟨by rfl, ?_⟩) ?_ ?_; rotate_left; intro w'; go_simp; with_reducible rfl; rotate_left; simp only [Act.put, sA_, sB_, sC_, i64_w, i32_w]; rfl
         refine pure_ (i := 27) (N := some 141) (v := ?_) (a' := ?_) z28_ rfl rfl (any_of HT_.out (by kernel_rfl)) (fun _ _ _ h => h) (Or.inl ⟨by rfl, ?_⟩) ?_ ?_; rotate_left; intro w'; go_simp; with_reducible rfl; rotate_left; simp only [Act.put, sA_, sB_, sC_, i64_w, i32_w]; rfl
         refine pure_ (i := 28) (N := some 142) (v := ?_) (a' := ?_) z29_ rfl rfl (any_of HT_.out (by kernel_rfl)) (fun _ _ _ h => h) (Or.inl ⟨by rfl, ?_⟩) ?_ ?_; rotate_left; intro w'; go_simp; with_reducible rfl; rotate_left; simp only [Act.put, sA_, sB_, sC_, i64_w, i32_w]; rfl
         refine pure_ (i := 29) (N := some 143) (v := ?_) (a' := ?_) z30_ rfl rfl (any_of HT_.out (by kernel_rfl)) (fun _ _ _ h => h) (Or.inl ⟨by rfl, ?_⟩) ?_ ?_; rotate_left; intro w'; go_simp; with_reducible rfl; rotate_left; simp only [Act.put, sA_, sB_, sC_, i64_w, i32_w]; rfl
         refine pure_ (i := 30) (N := some 144) (v := ?_) (a' := ?_) z31_ rfl rfl (any_of HT_.out (by kernel_rfl)) (fun _ _ _ h => h) (Or.inl ⟨by rfl, ?_⟩) ?_ ?_; rotate_left; intro w'; go_simp; with_reducible rfl; rotate_left; simp only [Act.put, sA_, sB_, sC_, i64_w, i32_w]; rfl
         refine pure_ (i := 31) (N := some 145) (v := ?_) (a' := ?_) z32_ rfl rfl (any_of HT_.out (by kernel_rfl)) (fun _ _ _ h => h) (Or.inl ⟨by rfl, ?_⟩) ?_ ?_; rotate_left; intro w'; go_simp; with_reducible rfl; rotate_left; simp only [Act.put, sA_, sB_, sC_, i64_w, i32_w]; rfl
         refine pure_ (i := 32) (N := some 146) (v := undef) (a' := ?_) z33_ rfl rfl (any_of HT_.out (by kernel_rfl)) (fun _ _ _ h => h) (Or.inr ⟨by rfl, rfl⟩) ?_ ?_
         rotate_left
         · simp only [Act.put, sA_, sB_, sC_, i64_w, i32_w]
           rfl
         refine pure_ (i := 33) (N := some 147) (v := undef) (a' := ?_) z34_ rfl rfl (any_of HT_.out (by kernel_rfl)) (fun _ _ _ h => h) (Or.inr ⟨by rfl, rfl⟩) ?_ ?_
         rotate_left
         · simp only [Act.put, sA_, sB_, sC_, i64_w, i32_w]
           rfl
         refine pure_ (i := 34) (N := some 148) (v := undef) (a' := ?_) z35_ rfl rfl (any_of HT_.out (by kernel_rfl)) (fun _ _ _ h => h) (Or.inr ⟨by rfl, rfl⟩) ?_ ?_
         rotate_left
         · simp only [Act.put, sA_, sB_, sC_, i64_w, i32_w]
           rfl
         refine pure_ (i := 35) (N := some 149) (v := undef) (a' := ?_) z36_ rfl rfl (any_of HT_.out (by kernel_rfl)) (fun _ _ _ h => h) (Or.inr ⟨by rfl, rfl⟩) ?_ ?_
         rotate_left
         · simp only [Act.put, sA_, sB_, sC_, i64_w, i32_w]
           rfl
         refine pure_ (i := 36) (N := some 150) (v := undef) (a' := ?_) z37_ rfl rfl (any_of HT_.out (by kernel_rfl)) (fun _ _ _ h => h) (Or.inr ⟨by rfl, rfl⟩) ?_ ?_
         rotate_left
         · simp only [Act.put, sA_, sB_, sC_, i64_w, i32_w]
           rfl
         refine pure_ (i := 37) (N := some 151) (v := undef) (a' := ?_) z38_ rfl rfl (any_of HT_.out (by kernel_rfl)) (fun _ _ _ h => h) (Or.inr ⟨by rfl, rfl⟩) ?_ ?_
         rotate_left
         · simp only [Act.put, sA_, sB_, sC_, i64_w, i32_w]
           rfl
         refine pure_ (i := 38) (N := some 152) (v := undef) (a' := ?_) z39_ rfl rfl (any_of HT_.out (by kernel_rfl)) (fun _ _ _ h => h) (Or.inr ⟨by rfl, rfl⟩) ?_ ?_
         rotate_left
         · simp only [Act.put, sA_, sB_, sC_, i64_w, i32_w]
           rfl
         refine pure_ (i := 39) (N := some 153) (v := undef) (a' := ?_) z40_ rfl rfl (any_of HT_.out (by kernel_rfl)) (fun _ _ _ h => h) (Or.inr ⟨by rfl, rfl⟩) ?_ ?_
         rotate_left
         · simp only [Act.put, sA_, sB_, sC_, i64_w, i32_w]
           rfl
         refine pure_ (i := 40) (N := some 154) (v := undef) (a' := ?_) z41_ rfl rfl (any_of HT_.out (by kernel_rfl)) (fun _ _ _ h => h) (Or.inr ⟨by rfl, rfl⟩) ?_ ?_
         rotate_left
         · simp only [Act.put, sA_, sB_, sC_, i64_w, i32_w]
           rfl
         refine pure_ (i := 41) (N := some 155) (v := undef) (a' := ?_) z42_ rfl rfl (any_of HT_.out (by kernel_rfl)) (fun _ _ _ h => h) (Or.inr ⟨by rfl, rfl⟩) ?_ ?_
         rotate_left
         · simp only [Act.put, sA_, sB_, sC_, i64_w, i32_w]
           rfl
         refine pure_ (i := 42) (N := some 156) (v := undef) (a' := ?_) z43_ rfl rfl (any_of HT_.out (by kernel_rfl)) (fun _ _ _ h => h) (Or.inr ⟨by rfl, rfl⟩) ?_ ?_
         rotate_left
         · simp only [Act.put, sA_, sB_, sC_, i64_w, i32_w]
           rfl
         refine pure_ (i := 43) (N := some 157) (v := undef) (a' := ?_) z44_ rfl rfl (any_of HT_.out (by kernel_rfl)) (fun _ _ _ h => h) (Or.inr ⟨by rfl, rfl⟩) ?_ ?_
         rotate_left
         · simp only [Act.put, sA_, sB_, sC_, i64_w, i32_w]
           rfl
         refine pure_ (i := 44) (N := some 158) (v := undef) (a' := ?_) z45_ rfl rfl (any_of HT_.out (by kernel_rfl)) (fun _ _ _ h => h) (Or.inr ⟨by rfl, rfl⟩) ?_ ?_
         rotate_left
         · simp only [Act.put, sA_, sB_, sC_, i64_w, i32_w]
           rfl
         refine pure_ (i := 45) (N := some 159) (v := ?_) (a' := ?_) z46_ rfl rfl (any_of HT_.out (by kernel_rfl)) (fun _ _ _ h => h) (Or.inl ⟨by rfl, ?_⟩) ?_ ?_; rotate_left; intro w'; go_simp; with_reducible rfl; rotate_left; simp only [Act.put, sA_, sB_, sC_, i64_w, i32_w]; rfl
         refine pure_ (i := 46) (N := some 160) (v := ?_) (a' := ?_) z47_ rfl rfl (any_of HT_.out (by kernel_rfl)) (fun _ _ _ h => h) (Or.inl ⟨by rfl, ?_⟩) ?_ ?_; rotate_left; intro w'; go_simp; with_reducible rfl; rotate_left; simp only [Act.put, sA_, sB_, sC_, i64_w, i32_w]; rfl
         refine pure_ (i := 47) (N := some 161) (v := undef) (a' := ?_) z48_ rfl rfl (any_of HT_.out (by kernel_rfl)) (fun _ _ _ h => h) (Or.inr ⟨by rfl, rfl⟩) ?_ ?_
         rotate_left
         · simp only [Act.put, sA_, sB_, sC_, i64_w, i32_w]
           rfl
         refine pure_ (i := 48) (N := some 162) (v := undef) (a' := ?_) z49_ rfl rfl (any_of HT_.out (by kernel_rfl)) (fun _ _ _ h => h) (Or.inr ⟨by rfl, rfl⟩) ?_ ?_
         rotate_left
         · simp only [Act.put, sA_, sB_, sC_, i64_w, i32_w]
           rfl
         refine pure_ (i := 49) (N := some 163) (v := undef) (a' := ?_) z50_ rfl rfl (any_of HT_.out (by kernel_rfl)) (fun _ _ _ h => h) (Or.inr ⟨by rfl, rfl⟩) ?_ ?_
         rotate_left
         · simp only [Act.put, sA_, sB_, sC_, i64_w, i32_w]
           rfl
         refine pure_ (i := 50) (N := some 164) (v := undef) (a' := ?_) z51_ rfl rfl (any_of HT_.out (by kernel_rfl)) (fun _ _ _ h => h) (Or.inr ⟨by rfl, rfl⟩) ?_ ?_
         rotate_left
         · simp only [Act.put, sA_, sB_, sC_, i64_w, i32_w]
           rfl
         refine pure_ (i := 51) (N := some 165) (v := ?_) (a' := ?_) z52_ rfl rfl (any_of HT_.out (by kernel_rfl)) (fun _ _ _ h => h) (Or.inl ⟨by rfl, ?_⟩) ?_ ?_; rotate_left; intro w'; go_simp; with_reducible rfl; rotate_left; simp only [Act.put, sA_, sB_, sC_, i64_w, i32_w]; rfl
         refine pure_ (i := 52) (N := some 4) (v := ?_) (a' := ?_) z53_ rfl rfl (any_of HT_.out (by kernel_rfl)) (fun _ _ _ h => h) (Or.inl ⟨by rfl, ?_⟩) ?_ ?_; rotate_left; intro w'; go_simp; with_reducible rfl; rotate_left; simp only [Act.put, sA_, sB_, sC_, i64_w, i32_w]; rfl
         refine done_ (done_of HT_.out (by kernel_rfl)) ?_
         try go_wp2
         go_ret
         exact ⟨by first | rfl | (simp [errW_none, errW_some] <;> rfl) | (simp [*, errW_none, errW_some] <;> rfl), by repeat (first | (with_reducible first | exact HB.out | apply below_alloc | apply pw_below_drewN | apply below_drew1 | refine below_set ?_ GE313.out | refine below_set ?_ GE338.out | refine below_set ?_ GE346.out | refine below_set ?_ GE354.out | refine below_set ?_ GE358.out) | exact HB.out)⟩
       rw [if_pos c73] at H
       have c73b0 : (t353 == t357) = true := c73
       (try (have c73b1 : decide (t353 = t357) = true := by simpa using c73))
       (try (have c73b2 : (t353 == t357) = true := by simpa using c73))
       clear c73
       replace H := Option.bind_eq_some_iff.mp H
       obtain ⟨t363, A740, H⟩ := H
       replace H : ((flyleafref15_Covers.f k3 x6_1 a1_1 a1_2).bind fun t364 => (if (t363 == t364) = true then ((region_Pages.f k3 x6_1).bind fun t365 => (some (t365 == x22_3))) else (some false))) = some r := H
       have A74 := Aside0.mk A740
       clear A740
       replace H := Option.bind_eq_some_iff.mp H
       obtain ⟨t364, A750, H⟩ := H
       replace H : (if (t363 == t364) = true then ((region_Pages.f k3 x6_1).bind fun t365 => (some (t365 == x22_3))) else (some false)) = some r := H
       have A75 := Aside0.mk A750
       clear A750
       by_cases c76 : (t363 == t364) = true
       rotate_left
       · rw [if_neg c76] at H
         have c76b0 : (t363 == t364) = false := by simpa using c76
         (try (have c76b1 : decide (t363 = t364) = false := by simpa using c76))
         (try (have c76b2 : (t363 == t364) = false := by simpa using c76))
         (try (have c76b3 : ¬ (t363 = t364) := by simpa using c76))
         clear c76
         obtain rfl := Option.some.inj H
         obtain ⟨Ao83, co83, eo83⟩ := Kd.R_slice HO_23.out
         subst eo83
         try go_wp2
         have n0_ := Aside0.mk (Kd.R_drew HO_6.out)
         have n1_ := Aside0.mk (Kd.R_drew HO_23.out)
         have n2_ := Aside0.mk (blk_drew BK313.out)
         have n3_ := Aside0.mk (blk_drew BK338.out)
         have n4_ := Aside0.mk (blk_drew BK346.out)
         have n5_ := Aside0.mk (blk_drew BK354.out)
         have n6_ := Aside0.mk (blk_drew BK358.out)
         have n7_ := Aside0.mk (below_drew1 HB.out)
         clear HO_6
         clear HO_23
         clear BK313
         clear BK338
         clear BK346
         clear BK354
         clear BK358
         clear HB
         have HO_6 := n0_
         have HO_23 := n1_
         have BK313 := n2_
         have BK338 := n3_
         have BK346 := n4_
         have BK354 := n5_
         have BK358 := n6_
         have HB := n7_
         clear n0_ n1_ n2_ n3_ n4_ n5_ n6_ n7_
         refine start_ (n := 53) (S := fun w' => w'.cell? ⟨gb338, 0, none⟩ = some (.int .i64 t331) ∧ w'.cell? ⟨gb338, 1, none⟩ = some (.int .i64 t332) ∧ w'.cell? ⟨gb338, 2, none⟩ = some (.int .i64 t333) ∧ w'.cell? ⟨gb338, 3, none⟩ = some (.int .i64 t334) ∧ w'.cell? ⟨gb338, 4, none⟩ = some (.int .i64 t335) ∧ w'.cell? ⟨gb338, 5, none⟩ = some (.int .i64 t336) ∧ w'.cell? ⟨gb346, 0, none⟩ = some (.int .i64 t339) ∧ w'.cell? ⟨gb346, 1, none⟩ = some (.int .i64 t340) ∧ w'.cell? ⟨gb346, 2, none⟩ = some (.int .i64 t341) ∧ w'.cell? ⟨gb346, 3, none⟩ = some (.int .i64 t342) ∧ w'.cell? ⟨gb346, 4, none⟩ = some (.int .i64 t343) ∧ w'.cell? ⟨gb346, 5, none⟩ = some (.int .i64 t344) ∧ w'.cell? ⟨gb354, 0, none⟩ = some (.int .i64 t351) ∧ w'.cell? ⟨gb354, 1, none⟩ = some (.int .i64 t352) ∧ w'.cell? ⟨gb358, 0, none⟩ = some (.int .i64 t355) ∧ w'.cell? ⟨gb358, 1, none⟩ = some (.int .i64 t356) ∧ w'.cell? ⟨gb313, 0, none⟩ = some (.int .i64 a1_0) ∧ w'.cell? ⟨gb313, 1, none⟩ = some (.int .i64 a1_1) ∧ w'.cell? ⟨gb313, 2, none⟩ = some (.int .i64 a1_2) ∧ w'.cell? ⟨gb313, 3, none⟩ = some (.int .i64 a1_3)) (ds := []) z0_ (by kernel_rfl) rfl rfl ⟨(blk_cell BK338.out 0).trans rfl, (blk_cell BK338.out 1).trans rfl, (blk_cell BK338.out 2).trans rfl, (blk_cell BK338.out 3).trans rfl, (blk_cell BK338.out 4).trans rfl, (blk_cell BK338.out 5).trans rfl, (blk_cell BK346.out 0).trans rfl, (blk_cell BK346.out 1).trans rfl, (blk_cell BK346.out 2).trans rfl, (blk_cell BK346.out 3).trans rfl, (blk_cell BK346.out 4).trans rfl, (blk_cell BK346.out 5).trans rfl, (blk_cell BK354.out 0).trans rfl, (blk_cell BK354.out 1).trans rfl, (blk_cell BK358.out 0).trans rfl, (blk_cell BK358.out 1).trans rfl, (blk_cell BK313.out 0).trans rfl, (blk_cell BK313.out 1).trans rfl, (blk_cell BK313.out 2).trans rfl, (blk_cell BK313.out 3).trans rfl⟩ (fun hHeld => ?_); refine with_tabW flyleaflaw15_RegionAsks.tab22 flyleaflaw15_RegionAsks.bits22 (fun HT_ HW_ => ?_)
         generalize wr.drew = w84 at HO_6 HO_23 BK313 BK338 BK346 BK354 BK358 HB hHeld ⊢
         refine pure_ (i := 0) (N := some 114) (v := ?_) (a' := ?_) z1_ rfl rfl (any_of HT_.out (by kernel_rfl)) (fun _ _ _ h => h) (Or.inl ⟨by rfl, ?_⟩) ?_ ?_; rotate_left; intro w'; go_simp; with_reducible rfl; rotate_left; simp only [Act.put, sA_, sB_, sC_, i64_w, i32_w]; rfl
         refine pure_ (i := 1) (N := some 115) (v := ?_) (a' := ?_) z2_ rfl rfl (any_of HT_.out (by kernel_rfl)) (fun _ _ _ h => h) (Or.inl ⟨by rfl, ?_⟩) ?_ ?_; rotate_left; intro w'; go_simp; with_reducible rfl; rotate_left; simp only [Act.put, sA_, sB_, sC_, i64_w, i32_w]; rfl
         refine take_ (i := 2) (N := some 116) (v := ?_) (a' := ?_) z3_ rfl rfl (take_ofW HT_.out HW_.out (by kernel_rfl)) (fun _ _ _ h => h) (Or.inl ⟨by rfl, ?_⟩) hHeld ?_ ?_; rotate_left; rintro w' ⟨s0, s1, s2, s3, s4, s5, s6, s7, s8, s9, s10, s11, s12, s13, s14, s15, s16, s17, s18, s19⟩; go_simp; with_reducible rfl; rotate_left; simp only [Act.put, sA_, sB_, sC_, i64_w, i32_w]; rfl
         refine take_ (i := 3) (N := some 117) (v := ?_) (a' := ?_) z4_ rfl rfl (take_ofW HT_.out HW_.out (by kernel_rfl)) (fun _ _ _ h => h) (Or.inl ⟨by rfl, ?_⟩) hHeld ?_ ?_; rotate_left; rintro w' ⟨s0, s1, s2, s3, s4, s5, s6, s7, s8, s9, s10, s11, s12, s13, s14, s15, s16, s17, s18, s19⟩; go_simp; with_reducible rfl; rotate_left; simp only [Act.put, sA_, sB_, sC_, i64_w, i32_w]; rfl
         refine pure_ (i := 4) (N := some 118) (v := ?_) (a' := ?_) z5_ rfl rfl (any_of HT_.out (by kernel_rfl)) (fun _ _ _ h => h) (Or.inl ⟨by rfl, ?_⟩) ?_ ?_; rotate_left; intro w'; go_simp; with_reducible rfl; rotate_left; simp only [Act.put, sA_, sB_, sC_, i64_w, i32_w]; rfl
         refine pure_ (i := 5) (N := some 119) (v := ?_) (a' := ?_) z6_ rfl rfl (any_of HT_.out (by kernel_rfl)) (fun _ _ _ h => h) (Or.inl ⟨by rfl, ?_⟩) ?_ ?_; rotate_left; intro w'; go_simp; with_reducible rfl; rotate_left; simp only [Act.put, sA_, sB_, sC_, i64_w, i32_w]; rfl
         refine pure_ (i := 6) (N := some 120) (v := ?_) (a' := ?_) z7_ rfl rfl (any_of HT_.out (by kernel_rfl)) (fun _ _ _ h => h) (Or.inl ⟨by rfl, ?_⟩) ?_ ?_; rotate_left; intro w'; go_simp; with_reducible rfl; rotate_left; simp only [Act.put, sA_, sB_, sC_, i64_w, i32_w]; rfl
         refine pure_ (i := 7) (N := some 121) (v := ?_) (a' := ?_) z8_ rfl rfl (any_of HT_.out (by kernel_rfl)) (fun _ _ _ h => h) (Or.inl ⟨by rfl, ?_⟩) ?_ ?_; rotate_left; intro w'; go_simp; with_reducible rfl; rotate_left; simp only [Act.put, sA_, sB_, sC_, i64_w, i32_w]; rfl
         refine pure_ (i := 8) (N := some 122) (v := ?_) (a' := ?_) z9_ rfl rfl (any_of HT_.out (by kernel_rfl)) (fun _ _ _ h => h) (Or.inl ⟨by rfl, ?_⟩) ?_ ?_; rotate_left; intro w'; go_simp; with_reducible rfl; rotate_left; simp only [Act.put, sA_, sB_, sC_, i64_w, i32_w]; rfl
         refine pure_ (i := 9) (N := some 123) (v := ?_) (a' := ?_) z10_ rfl rfl (any_of HT_.out (by kernel_rfl)) (fun _ _ _ h => h) (Or.inl ⟨by rfl, ?_⟩) ?_ ?_; rotate_left; intro w'; go_simp; with_reducible rfl; rotate_left; simp only [Act.put, sA_, sB_, sC_, i64_w, i32_w]; rfl
         refine pure_ (i := 10) (N := some 124) (v := ?_) (a' := ?_) z11_ rfl rfl (any_of HT_.out (by kernel_rfl)) (fun _ _ _ h => h) (Or.inl ⟨by rfl, ?_⟩) ?_ ?_; rotate_left; intro w'; go_simp; with_reducible rfl; rotate_left; simp only [Act.put, sA_, sB_, sC_, i64_w, i32_w]; rfl
         refine pure_ (i := 11) (N := some 125) (v := ?_) (a' := ?_) z12_ rfl rfl (any_of HT_.out (by kernel_rfl)) (fun _ _ _ h => h) (Or.inl ⟨by rfl, ?_⟩) ?_ ?_; rotate_left; intro w'; go_simp; with_reducible rfl; rotate_left; simp only [Act.put, sA_, sB_, sC_, i64_w, i32_w]; rfl
         refine pure_ (i := 12) (N := some 126) (v := ?_) (a' := ?_) z13_ rfl rfl (any_of HT_.out (by kernel_rfl)) (fun _ _ _ h => h) (Or.inl ⟨by rfl, ?_⟩) ?_ ?_; rotate_left; intro w'; go_simp; with_reducible rfl; rotate_left; simp only [Act.put, sA_, sB_, sC_, i64_w, i32_w]; rfl
         refine pure_ (i := 13) (N := some 127) (v := ?_) (a' := ?_) z14_ rfl rfl (any_of HT_.out (by kernel_rfl)) (fun _ _ _ h => h) (Or.inl ⟨by rfl, ?_⟩) ?_ ?_; rotate_left; intro w'; go_simp; with_reducible rfl; rotate_left; simp only [Act.put, sA_, sB_, sC_, i64_w, i32_w]; rfl
         refine pure_ (i := 14) (N := some 128) (v := ?_) (a' := ?_) z15_ rfl rfl (any_of HT_.out (by kernel_rfl)) (fun _ _ _ h => h) (Or.inl ⟨by rfl, ?_⟩) ?_ ?_; rotate_left; intro w'; go_simp; with_reducible rfl; rotate_left; simp only [Act.put, sA_, sB_, sC_, i64_w, i32_w]; rfl
         refine pure_ (i := 15) (N := some 129) (v := ?_) (a' := ?_) z16_ rfl rfl (any_of HT_.out (by kernel_rfl)) (fun _ _ _ h => h) (Or.inl ⟨by rfl, ?_⟩) ?_ ?_; rotate_left; intro w'; go_simp; with_reducible rfl; rotate_left; simp only [Act.put, sA_, sB_, sC_, i64_w, i32_w]; rfl
         refine pure_ (i := 16) (N := some 130) (v := ?_) (a' := ?_) z17_ rfl rfl (any_of HT_.out (by kernel_rfl)) (fun _ _ _ h => h) (Or.inl ⟨by rfl, ?_⟩) ?_ ?_; rotate_left; intro w'; go_simp; with_reducible rfl; rotate_left; simp only [Act.put, sA_, sB_, sC_, i64_w, i32_w]; rfl
         refine pure_ (i := 17) (N := some 131) (v := ?_) (a' := ?_) z18_ rfl rfl (any_of HT_.out (by kernel_rfl)) (fun _ _ _ h => h) (Or.inl ⟨by rfl, ?_⟩) ?_ ?_; rotate_left; intro w'; go_simp; with_reducible rfl; rotate_left; simp only [Act.put, sA_, sB_, sC_, i64_w, i32_w]; rfl
         refine pure_ (i := 18) (N := some 132) (v := ?_) (a' := ?_) z19_ rfl rfl (any_of HT_.out (by kernel_rfl)) (fun _ _ _ h => h) (Or.inl ⟨by rfl, ?_⟩) ?_ ?_; rotate_left; intro w'; go_simp; with_reducible rfl; rotate_left; simp only [Act.put, sA_, sB_, sC_, i64_w, i32_w]; rfl
         refine pure_ (i := 19) (N := some 133) (v := ?_) (a' := ?_) z20_ rfl rfl (any_of HT_.out (by kernel_rfl)) (fun _ _ _ h => h) (Or.inl ⟨by rfl, ?_⟩) ?_ ?_; rotate_left; intro w'; go_simp; with_reducible rfl; rotate_left; simp only [Act.put, sA_, sB_, sC_, i64_w, i32_w]; rfl
         refine pure_ (i := 20) (N := some 134) (v := ?_) (a' := ?_) z21_ rfl rfl (any_of HT_.out (by kernel_rfl)) (fun _ _ _ h => h) (Or.inl ⟨by rfl, ?_⟩) ?_ ?_; rotate_left; intro w'; go_simp; with_reducible rfl; rotate_left; simp only [Act.put, sA_, sB_, sC_, i64_w, i32_w]; rfl
         refine pure_ (i := 21) (N := some 135) (v := ?_) (a' := ?_) z22_ rfl rfl (any_of HT_.out (by kernel_rfl)) (fun _ _ _ h => h) (Or.inl ⟨by rfl, ?_⟩) ?_ ?_; rotate_left; intro w'; go_simp; with_reducible rfl; rotate_left; simp only [Act.put, sA_, sB_, sC_, i64_w, i32_w]; rfl
         refine take_ (i := 22) (N := some 136) (v := ?_) (a' := ?_) z23_ rfl rfl (take_ofW HT_.out HW_.out (by kernel_rfl)) (fun _ _ _ h => h) (Or.inl ⟨by rfl, ?_⟩) hHeld ?_ ?_; rotate_left; rintro w' ⟨s0, s1, s2, s3, s4, s5, s6, s7, s8, s9, s10, s11, s12, s13, s14, s15, s16, s17, s18, s19⟩; go_simp; with_reducible rfl; rotate_left; simp only [Act.put, sA_, sB_, sC_, i64_w, i32_w]; rfl
         refine take_ (i := 23) (N := some 137) (v := ?_) (a' := ?_) z24_ rfl rfl (take_ofW HT_.out HW_.out (by kernel_rfl)) (fun _ _ _ h => h) (Or.inl ⟨by rfl, ?_⟩) hHeld ?_ ?_; rotate_left; rintro w' ⟨s0, s1, s2, s3, s4, s5, s6, s7, s8, s9, s10, s11, s12, s13, s14, s15, s16, s17, s18, s19⟩; go_simp; with_reducible rfl; rotate_left; simp only [Act.put, sA_, sB_, sC_, i64_w, i32_w]; rfl
         refine pure_ (i := 24) (N := some 138) (v := ?_) (a' := ?_) z25_ rfl rfl (any_of HT_.out (by kernel_rfl)) (fun _ _ _ h => h) (Or.inl ⟨by rfl, ?_⟩) ?_ ?_; rotate_left; intro w'; go_simp; with_reducible rfl; rotate_left; simp only [Act.put, sA_, sB_, sC_, i64_w, i32_w]; rfl
         refine pure_ (i := 25) (N := some 139) (v := ?_) (a' := ?_) z26_ rfl rfl (any_of HT_.out (by kernel_rfl)) (fun _ _ _ h => h) (Or.inl ⟨by rfl, ?_⟩) ?_ ?_; rotate_left; intro w'; go_simp; with_reducible rfl; rotate_left; simp only [Act.put, sA_, sB_, sC_, i64_w, i32_w]; rfl
         refine pure_ (i := 26) (N := some 140) (v := ?_) (a' := ?_) z27_ rfl rfl (any_of HT_.out (by kernel_rfl)) (fun _ _ _ h => h) (Or.inl ⟨by rfl, ?_⟩) ?_ ?_; rotate_left; intro w'; go_simp; with_reducible rfl; rotate_left; simp only [Act.put, sA_, sB_, sC_, i64_w, i32_w]; rfl
         refine pure_ (i := 27) (N := some 141) (v := ?_) (a' := ?_) z28_ rfl rfl (any_of HT_.out (by kernel_rfl)) (fun _ _ _ h => h) (Or.inl ⟨by rfl, ?_⟩) ?_ ?_; rotate_left; intro w'; go_simp; with_reducible rfl; rotate_left; simp only [Act.put, sA_, sB_, sC_, i64_w, i32_w]; rfl
         refine pure_ (i := 28) (N := some 142) (v := ?_) (a' := ?_) z29_ rfl rfl (any_of HT_.out (by kernel_rfl)) (fun _ _ _ h => h) (Or.inl ⟨by rfl, ?_⟩) ?_ ?_; rotate_left; intro w'; go_simp; with_reducible rfl; rotate_left; simp only [Act.put, sA_, sB_, sC_, i64_w, i32_w]; rfl
         refine pure_ (i := 29) (N := some 143) (v := ?_) (a' := ?_) z30_ rfl rfl (any_of HT_.out (by kernel_rfl)) (fun _ _ _ h => h) (Or.inl ⟨by rfl, ?_⟩) ?_ ?_; rotate_left; intro w'; go_simp; with_reducible rfl; rotate_left; simp only [Act.put, sA_, sB_, sC_, i64_w, i32_w]; rfl
         refine pure_ (i := 30) (N := some 144) (v := ?_) (a' := ?_) z31_ rfl rfl (any_of HT_.out (by kernel_rfl)) (fun _ _ _ h => h) (Or.inl ⟨by rfl, ?_⟩) ?_ ?_; rotate_left; intro w'; go_simp; with_reducible rfl; rotate_left; simp only [Act.put, sA_, sB_, sC_, i64_w, i32_w]; rfl
         refine pure_ (i := 31) (N := some 145) (v := ?_) (a' := ?_) z32_ rfl rfl (any_of HT_.out (by kernel_rfl)) (fun _ _ _ h => h) (Or.inl ⟨by rfl, ?_⟩) ?_ ?_; rotate_left; intro w'; go_simp; with_reducible rfl; rotate_left; simp only [Act.put, sA_, sB_, sC_, i64_w, i32_w]; rfl
         refine pure_ (i := 32) (N := some 146) (v := ?_) (a' := ?_) z33_ rfl rfl (any_of HT_.out (by kernel_rfl)) (fun _ _ _ h => h) (Or.inl ⟨by rfl, ?_⟩) ?_ ?_; rotate_left; intro w'; go_simp; with_reducible rfl; rotate_left; simp only [Act.put, sA_, sB_, sC_, i64_w, i32_w]; rfl
         refine pure_ (i := 33) (N := some 147) (v := ?_) (a' := ?_) z34_ rfl rfl (any_of HT_.out (by kernel_rfl)) (fun _ _ _ h => h) (Or.inl ⟨by rfl, ?_⟩) ?_ ?_; rotate_left; intro w'; go_simp; with_reducible rfl; rotate_left; simp only [Act.put, sA_, sB_, sC_, i64_w, i32_w]; rfl
         refine pure_ (i := 35) (N := some 149) (v := ?_) (a' := ?_) z54_ rfl rfl (any_of HT_.out (by kernel_rfl)) (fun _ _ _ h => h) (Or.inl ⟨by rfl, ?_⟩) ?_ ?_; rotate_left; intro w'; go_simp; with_reducible rfl; rotate_left; simp only [Act.put, sA_, sB_, sC_, i64_w, i32_w]; rfl
         refine pure_ (i := 38) (N := some 152) (v := ?_) (a' := ?_) z55_ rfl rfl (any_of HT_.out (by kernel_rfl)) (fun _ _ _ h => h) (Or.inl ⟨by rfl, ?_⟩) ?_ ?_; rotate_left; intro w'; go_simp; with_reducible rfl; rotate_left; simp only [Act.put, sA_, sB_, sC_, i64_w, i32_w]; rfl
         refine pure_ (i := 39) (N := some 153) (v := ?_) (a' := ?_) z56_ rfl rfl (any_of HT_.out (by kernel_rfl)) (fun _ _ _ h => h) (Or.inl ⟨by rfl, ?_⟩) ?_ ?_; rotate_left; intro w'; go_simp; with_reducible rfl; rotate_left; simp only [Act.put, sA_, sB_, sC_, i64_w, i32_w]; rfl
         refine pure_ (i := 41) (N := some 155) (v := ?_) (a' := ?_) z57_ rfl rfl (any_of HT_.out (by kernel_rfl)) (fun _ _ _ h => h) (Or.inl ⟨by rfl, ?_⟩) ?_ ?_; rotate_left; intro w'; go_simp; with_reducible rfl; rotate_left; simp only [Act.put, sA_, sB_, sC_, i64_w, i32_w]; rfl
         refine take_ (i := 34) (N := some 148) (v := ?_) (a' := ?_) z58_ rfl rfl (take_ofW HT_.out HW_.out (by kernel_rfl)) (fun _ _ _ h => h) (Or.inl ⟨by rfl, ?_⟩) hHeld ?_ ?_; rotate_left; rintro w' ⟨s0, s1, s2, s3, s4, s5, s6, s7, s8, s9, s10, s11, s12, s13, s14, s15, s16, s17, s18, s19⟩; go_simp; with_reducible rfl; rotate_left; simp only [Act.put, sA_, sB_, sC_, i64_w, i32_w]; rfl
         refine take_ (i := 36) (N := some 150) (v := ?_) (a' := ?_) z59_ rfl rfl (take_ofW HT_.out HW_.out (by kernel_rfl)) (fun _ _ _ h => h) (Or.inl ⟨by rfl, ?_⟩) hHeld ?_ ?_; rotate_left; rintro w' ⟨s0, s1, s2, s3, s4, s5, s6, s7, s8, s9, s10, s11, s12, s13, s14, s15, s16, s17, s18, s19⟩; go_simp; with_reducible rfl; rotate_left; simp only [Act.put, sA_, sB_, sC_, i64_w, i32_w]; rfl
         refine take_ (i := 40) (N := some 154) (v := ?_) (a' := ?_) z60_ rfl rfl (take_ofW HT_.out HW_.out (by kernel_rfl)) (fun _ _ _ h => h) (Or.inl ⟨by rfl, ?_⟩) hHeld ?_ ?_; rotate_left; rintro w' ⟨s0, s1, s2, s3, s4, s5, s6, s7, s8, s9, s10, s11, s12, s13, s14, s15, s16, s17, s18, s19⟩; go_simp; with_reducible rfl; rotate_left; simp only [Act.put, sA_, sB_, sC_, i64_w, i32_w]; rfl
         refine take_ (i := 42) (N := some 156) (v := ?_) (a' := ?_) z61_ rfl rfl (take_ofW HT_.out HW_.out (by kernel_rfl)) (fun _ _ _ h => h) (Or.inl ⟨by rfl, ?_⟩) hHeld ?_ ?_; rotate_left; rintro w' ⟨s0, s1, s2, s3, s4, s5, s6, s7, s8, s9, s10, s11, s12, s13, s14, s15, s16, s17, s18, s19⟩; go_simp; with_reducible rfl; rotate_left; simp only [Act.put, sA_, sB_, sC_, i64_w, i32_w]; rfl
         refine one_ (i := 37) (N := some 151) z43_ rfl rfl (one_of HT_.out (by kernel_rfl)) (by decide) (fun K hK => ?_)
         refine goes_ Try.func39 (by kernel_rfl) rfl #[.slice Ao28 x6_1.length co28, .int .i64 a1_1, .int .i64 a1_2] (by rfl) rfl rfl (by (try simp only [List.map_toArray, List.map_cons, List.map_nil]); first | done | rfl | (simp only [List.length_drop, List.length_take]; rfl)) ?_
         with_reducible refine (region_Covers.calls k3 _ _ x6_1 a1_1 a1_2 t363 _ ?side1 ?side2 A74.out).mono ?_
         (case side1 => repeat (first | exact (Kd.R_reads' HO_6.out).2.2 | (with_reducible refine Kd.C_alloc ?_ _) | (with_reducible refine Kd.C_drewN ?_ _) | (with_reducible refine Kd.C_drew ?_)))
         (case side2 => exact (Kd.R_reads' HO_6.out).2.1)
         rintro e w85 ⟨rfl, hb⟩
         refine ⟨_, rfl, ?_⟩
         have n0_ := Aside0.mk (Kd.R_below (by (with_reducible repeat (first | apply Kd.R_alloc | apply Kd.R_drewN | apply Kd.R_drew)); exact HO_6.out) hb)
         have n1_ := Aside0.mk (Kd.R_below (by (with_reducible repeat (first | apply Kd.R_alloc | apply Kd.R_drewN | apply Kd.R_drew)); exact HO_23.out) hb)
         have n2_ := Aside0.mk (blk_below (g := gb313) (o := .cells #[.int .i64 a1_0, .int .i64 a1_1, .int .i64 a1_2, .int .i64 a1_3] 39 (0, 0)) (by (with_reducible repeat (first | refine blk_drewN ?_ _ | refine blk_drew ?_ | refine blk_alloc ?_ _)); exact BK313.out) hb)
         have n3_ := Aside0.mk (blk_below (g := gb338) (o := .cells #[.int .i64 t331, .int .i64 t332, .int .i64 t333, .int .i64 t334, .int .i64 t335, .int .i64 t336] 41 (0, 0)) (by (with_reducible repeat (first | refine blk_drewN ?_ _ | refine blk_drew ?_ | refine blk_alloc ?_ _)); exact BK338.out) hb)
         have n4_ := Aside0.mk (blk_below (g := gb346) (o := .cells #[.int .i64 t339, .int .i64 t340, .int .i64 t341, .int .i64 t342, .int .i64 t343, .int .i64 t344] 41 (0, 0)) (by (with_reducible repeat (first | refine blk_drewN ?_ _ | refine blk_drew ?_ | refine blk_alloc ?_ _)); exact BK346.out) hb)
         have n5_ := Aside0.mk (blk_below (g := gb354) (o := .cells #[.int .i64 t351, .int .i64 t352] 77 (0, 0)) (by (with_reducible repeat (first | refine blk_drewN ?_ _ | refine blk_drew ?_ | refine blk_alloc ?_ _)); exact BK354.out) hb)
         have n6_ := Aside0.mk (blk_below (g := gb358) (o := .cells #[.int .i64 t355, .int .i64 t356] 77 (0, 0)) (by (with_reducible repeat (first | refine blk_drewN ?_ _ | refine blk_drew ?_ | refine blk_alloc ?_ _)); exact BK358.out) hb)
         have n7_ := Aside0.mk (below_step (by repeat (first | (with_reducible first | exact HB.out | apply below_alloc | apply pw_below_drewN | apply below_drew1 | refine below_set ?_ GE313.out | refine below_set ?_ GE338.out | refine below_set ?_ GE346.out | refine below_set ?_ GE354.out | refine below_set ?_ GE358.out) | exact HB.out)) hb)
         clear HO_6
         clear HO_23
         clear BK313
         clear BK338
         clear BK346
         clear BK354
         clear BK358
         clear HB
         have HO_6 := n0_
         have HO_23 := n1_
         have BK313 := n2_
         have BK338 := n3_
         have BK346 := n4_
         have BK354 := n5_
         have BK358 := n6_
         have HB := n7_
         clear n0_ n1_ n2_ n3_ n4_ n5_ n6_ n7_
         (try clear hb)
         (try clear hb2)
         (try clear hk)
         (try clear hi)
         refine hK.out _ _ ⟨(blk_cell BK338.out 0).trans rfl, (blk_cell BK338.out 1).trans rfl, (blk_cell BK338.out 2).trans rfl, (blk_cell BK338.out 3).trans rfl, (blk_cell BK338.out 4).trans rfl, (blk_cell BK338.out 5).trans rfl, (blk_cell BK346.out 0).trans rfl, (blk_cell BK346.out 1).trans rfl, (blk_cell BK346.out 2).trans rfl, (blk_cell BK346.out 3).trans rfl, (blk_cell BK346.out 4).trans rfl, (blk_cell BK346.out 5).trans rfl, (blk_cell BK354.out 0).trans rfl, (blk_cell BK354.out 1).trans rfl, (blk_cell BK358.out 0).trans rfl, (blk_cell BK358.out 1).trans rfl, (blk_cell BK313.out 0).trans rfl, (blk_cell BK313.out 1).trans rfl, (blk_cell BK313.out 2).trans rfl, (blk_cell BK313.out 3).trans rfl⟩ (fun hHeld => ?_)
         clear hK K
         refine norm_ (a' := ?_) ?_ ?_
         rotate_left
         · show Act.put _ (some 151) _ = _
           simp only [Act.put, sA_, sB_, sC_, i64_w, i32_w]
           rfl
         refine one_ (i := 43) (N := some 157) z44_ rfl rfl (one_of HT_.out (by kernel_rfl)) (by decide) (fun K hK => ?_)
         refine goes_ Try.func45 (by kernel_rfl) rfl #[.slice Ao28 x6_1.length co28, .int .i64 a1_1, .int .i64 a1_2] (by rfl) rfl rfl (by (try simp only [List.map_toArray, List.map_cons, List.map_nil]); first | done | rfl | (simp only [List.length_drop, List.length_take]; rfl)) ?_
         with_reducible refine (flyleafref15_Covers.calls k3 _ _ x6_1 a1_1 a1_2 t364 _ ?side1 ?side2 A75.out).mono ?_
         (case side1 => repeat (first | exact (Kd.R_reads' HO_6.out).2.2 | (with_reducible refine Kd.C_alloc ?_ _) | (with_reducible refine Kd.C_drewN ?_ _) | (with_reducible refine Kd.C_drew ?_)))
         (case side2 => exact (Kd.R_reads' HO_6.out).2.1)
         rintro e w86 ⟨rfl, hb⟩
         refine ⟨_, rfl, ?_⟩
         have n0_ := Aside0.mk (Kd.R_below (by (with_reducible repeat (first | apply Kd.R_alloc | apply Kd.R_drewN | apply Kd.R_drew)); exact HO_6.out) hb)
         have n1_ := Aside0.mk (Kd.R_below (by (with_reducible repeat (first | apply Kd.R_alloc | apply Kd.R_drewN | apply Kd.R_drew)); exact HO_23.out) hb)
         have n2_ := Aside0.mk (blk_below (g := gb313) (o := .cells #[.int .i64 a1_0, .int .i64 a1_1, .int .i64 a1_2, .int .i64 a1_3] 39 (0, 0)) (by (with_reducible repeat (first | refine blk_drewN ?_ _ | refine blk_drew ?_ | refine blk_alloc ?_ _)); exact BK313.out) hb)
         have n3_ := Aside0.mk (blk_below (g := gb338) (o := .cells #[.int .i64 t331, .int .i64 t332, .int .i64 t333, .int .i64 t334, .int .i64 t335, .int .i64 t336] 41 (0, 0)) (by (with_reducible repeat (first | refine blk_drewN ?_ _ | refine blk_drew ?_ | refine blk_alloc ?_ _)); exact BK338.out) hb)
         have n4_ := Aside0.mk (blk_below (g := gb346) (o := .cells #[.int .i64 t339, .int .i64 t340, .int .i64 t341, .int .i64 t342, .int .i64 t343, .int .i64 t344] 41 (0, 0)) (by (with_reducible repeat (first | refine blk_drewN ?_ _ | refine blk_drew ?_ | refine blk_alloc ?_ _)); exact BK346.out) hb)
         have n5_ := Aside0.mk (blk_below (g := gb354) (o := .cells #[.int .i64 t351, .int .i64 t352] 77 (0, 0)) (by (with_reducible repeat (first | refine blk_drewN ?_ _ | refine blk_drew ?_ | refine blk_alloc ?_ _)); exact BK354.out) hb)
         have n6_ := Aside0.mk (blk_below (g := gb358) (o := .cells #[.int .i64 t355, .int .i64 t356] 77 (0, 0)) (by (with_reducible repeat (first | refine blk_drewN ?_ _ | refine blk_drew ?_ | refine blk_alloc ?_ _)); exact BK358.out) hb)
         have n7_ := Aside0.mk (below_step (by repeat (first | (with_reducible first | exact HB.out | apply below_alloc | apply pw_below_drewN | apply below_drew1 | refine below_set ?_ GE313.out | refine below_set ?_ GE338.out | refine below_set ?_ GE346.out | refine below_set ?_ GE354.out | refine below_set ?_ GE358.out) | exact HB.out)) hb)
         clear HO_6
         clear HO_23
         clear BK313
         clear BK338
         clear BK346
         clear BK354
         clear BK358
         clear HB
         have HO_6 := n0_
         have HO_23 := n1_
         have BK313 := n2_
         have BK338 := n3_
         have BK346 := n4_
         have BK354 := n5_
         have BK358 := n6_
         have HB := n7_
         clear n0_ n1_ n2_ n3_ n4_ n5_ n6_ n7_
         (try clear hb)
         (try clear hb2)
         (try clear hk)
         (try clear hi)
         refine hK.out _ _ ⟨(blk_cell BK338.out 0).trans rfl, (blk_cell BK338.out 1).trans rfl, (blk_cell BK338.out 2).trans rfl, (blk_cell BK338.out 3).trans rfl, (blk_cell BK338.out 4).trans rfl, (blk_cell BK338.out 5).trans rfl, (blk_cell BK346.out 0).trans rfl, (blk_cell BK346.out 1).trans rfl, (blk_cell BK346.out 2).trans rfl, (blk_cell BK346.out 3).trans rfl, (blk_cell BK346.out 4).trans rfl, (blk_cell BK346.out 5).trans rfl, (blk_cell BK354.out 0).trans rfl, (blk_cell BK354.out 1).trans rfl, (blk_cell BK358.out 0).trans rfl, (blk_cell BK358.out 1).trans rfl, (blk_cell BK313.out 0).trans rfl, (blk_cell BK313.out 1).trans rfl, (blk_cell BK313.out 2).trans rfl, (blk_cell BK313.out 3).trans rfl⟩ (fun hHeld => ?_)
         clear hK K
         refine norm_ (a' := ?_) ?_ ?_
         rotate_left
         · show Act.put _ (some 157) _ = _
           simp only [Act.put, sA_, sB_, sC_, i64_w, i32_w]
           rfl
         refine pure_ (i := 44) (N := some 158) (v := ?_) (a' := ?_) z45_ rfl rfl (any_of HT_.out (by kernel_rfl)) (fun _ _ _ h => h) (Or.inl ⟨by rfl, ?_⟩) ?_ ?_; rotate_left; intro w'; go_simp; with_reducible rfl; rotate_left; simp only [Act.put, sA_, sB_, sC_, i64_w, i32_w]; rfl
         refine pure_ (i := 45) (N := some 159) (v := ?_) (a' := ?_) z46_ rfl rfl (any_of HT_.out (by kernel_rfl)) (fun _ _ _ h => h) (Or.inl ⟨by rfl, ?_⟩) ?_ ?_; rotate_left; intro w'; go_simp; with_reducible rfl; rotate_left; simp only [Act.put, sA_, sB_, sC_, i64_w, i32_w]; rfl
         refine pure_ (i := 46) (N := some 160) (v := ?_) (a' := ?_) z47_ rfl rfl (any_of HT_.out (by kernel_rfl)) (fun _ _ _ h => h) (Or.inl ⟨by rfl, ?_⟩) ?_ ?_; rotate_left; intro w'; go_simp; with_reducible rfl; rotate_left; simp only [Act.put, sA_, sB_, sC_, i64_w, i32_w]; rfl
         refine pure_ (i := 47) (N := some 161) (v := undef) (a' := ?_) z48_ rfl rfl (any_of HT_.out (by kernel_rfl)) (fun _ _ _ h => h) (Or.inr ⟨by rfl, rfl⟩) ?_ ?_
         rotate_left
         · simp only [Act.put, sA_, sB_, sC_, i64_w, i32_w]
           rfl
         refine pure_ (i := 48) (N := some 162) (v := undef) (a' := ?_) z49_ rfl rfl (any_of HT_.out (by kernel_rfl)) (fun _ _ _ h => h) (Or.inr ⟨by rfl, rfl⟩) ?_ ?_
         rotate_left
         · simp only [Act.put, sA_, sB_, sC_, i64_w, i32_w]
           rfl
         refine pure_ (i := 49) (N := some 163) (v := undef) (a' := ?_) z50_ rfl rfl (any_of HT_.out (by kernel_rfl)) (fun _ _ _ h => h) (Or.inr ⟨by rfl, rfl⟩) ?_ ?_
         rotate_left
         · simp only [Act.put, sA_, sB_, sC_, i64_w, i32_w]
           rfl
         refine pure_ (i := 50) (N := some 164) (v := undef) (a' := ?_) z51_ rfl rfl (any_of HT_.out (by kernel_rfl)) (fun _ _ _ h => h) (Or.inr ⟨by rfl, rfl⟩) ?_ ?_
         rotate_left
         · simp only [Act.put, sA_, sB_, sC_, i64_w, i32_w]
           rfl
         refine pure_ (i := 51) (N := some 165) (v := ?_) (a' := ?_) z52_ rfl rfl (any_of HT_.out (by kernel_rfl)) (fun _ _ _ h => h) (Or.inl ⟨by rfl, ?_⟩) ?_ ?_; rotate_left; intro w'; go_simp; with_reducible rfl; rotate_left; simp only [Act.put, sA_, sB_, sC_, i64_w, i32_w]; rfl
         refine pure_ (i := 52) (N := some 4) (v := ?_) (a' := ?_) z53_ rfl rfl (any_of HT_.out (by kernel_rfl)) (fun _ _ _ h => h) (Or.inl ⟨by rfl, ?_⟩) ?_ ?_; rotate_left; intro w'; go_simp; with_reducible rfl; rotate_left; simp only [Act.put, sA_, sB_, sC_, i64_w, i32_w]; rfl
         refine done_ (done_of HT_.out (by kernel_rfl)) ?_
         try go_wp2
         go_ret
         exact ⟨by first | rfl | (simp [errW_none, errW_some] <;> rfl) | (simp [*, errW_none, errW_some] <;> rfl), by repeat (first | (with_reducible first | exact HB.out | apply below_alloc | apply pw_below_drewN | apply below_drew1 | refine below_set ?_ GE313.out | refine below_set ?_ GE338.out | refine below_set ?_ GE346.out | refine below_set ?_ GE354.out | refine below_set ?_ GE358.out) | exact HB.out)⟩
       rw [if_pos c76] at H
       have c76b0 : (t363 == t364) = true := c76
       (try (have c76b1 : decide (t363 = t364) = true := by simpa using c76))
       (try (have c76b2 : (t363 == t364) = true := by simpa using c76))
       clear c76
       replace H := Option.bind_eq_some_iff.mp H
       obtain ⟨t365, A770, H⟩ := H
       replace H : (some (t365 == x22_3)) = some r := H
       have A77 := Aside0.mk A770
       clear A770
       obtain rfl := Option.some.inj H
       obtain ⟨Ao78, co78, eo78⟩ := Kd.R_slice HO_23.out
       subst eo78
       try go_wp2
       have n0_ := Aside0.mk (Kd.R_drew HO_6.out)
       have n1_ := Aside0.mk (Kd.R_drew HO_23.out)
       have n2_ := Aside0.mk (blk_drew BK313.out)
       have n3_ := Aside0.mk (blk_drew BK338.out)
       have n4_ := Aside0.mk (blk_drew BK346.out)
       have n5_ := Aside0.mk (blk_drew BK354.out)
       have n6_ := Aside0.mk (blk_drew BK358.out)
       have n7_ := Aside0.mk (below_drew1 HB.out)
       clear HO_6
       clear HO_23
       clear BK313
       clear BK338
       clear BK346
       clear BK354
       clear BK358
       clear HB
       have HO_6 := n0_
       have HO_23 := n1_
       have BK313 := n2_
       have BK338 := n3_
       have BK346 := n4_
       have BK354 := n5_
       have BK358 := n6_
       have HB := n7_
       clear n0_ n1_ n2_ n3_ n4_ n5_ n6_ n7_
       refine start_ (n := 53) (S := fun w' => w'.cell? ⟨gb338, 0, none⟩ = some (.int .i64 t331) ∧ w'.cell? ⟨gb338, 1, none⟩ = some (.int .i64 t332) ∧ w'.cell? ⟨gb338, 2, none⟩ = some (.int .i64 t333) ∧ w'.cell? ⟨gb338, 3, none⟩ = some (.int .i64 t334) ∧ w'.cell? ⟨gb338, 4, none⟩ = some (.int .i64 t335) ∧ w'.cell? ⟨gb338, 5, none⟩ = some (.int .i64 t336) ∧ w'.cell? ⟨gb346, 0, none⟩ = some (.int .i64 t339) ∧ w'.cell? ⟨gb346, 1, none⟩ = some (.int .i64 t340) ∧ w'.cell? ⟨gb346, 2, none⟩ = some (.int .i64 t341) ∧ w'.cell? ⟨gb346, 3, none⟩ = some (.int .i64 t342) ∧ w'.cell? ⟨gb346, 4, none⟩ = some (.int .i64 t343) ∧ w'.cell? ⟨gb346, 5, none⟩ = some (.int .i64 t344) ∧ w'.cell? ⟨gb354, 0, none⟩ = some (.int .i64 t351) ∧ w'.cell? ⟨gb354, 1, none⟩ = some (.int .i64 t352) ∧ w'.cell? ⟨gb358, 0, none⟩ = some (.int .i64 t355) ∧ w'.cell? ⟨gb358, 1, none⟩ = some (.int .i64 t356) ∧ w'.cell? ⟨gb313, 0, none⟩ = some (.int .i64 a1_0) ∧ w'.cell? ⟨gb313, 1, none⟩ = some (.int .i64 a1_1) ∧ w'.cell? ⟨gb313, 2, none⟩ = some (.int .i64 a1_2) ∧ w'.cell? ⟨gb313, 3, none⟩ = some (.int .i64 a1_3)) (ds := []) z0_ (by kernel_rfl) rfl rfl ⟨(blk_cell BK338.out 0).trans rfl, (blk_cell BK338.out 1).trans rfl, (blk_cell BK338.out 2).trans rfl, (blk_cell BK338.out 3).trans rfl, (blk_cell BK338.out 4).trans rfl, (blk_cell BK338.out 5).trans rfl, (blk_cell BK346.out 0).trans rfl, (blk_cell BK346.out 1).trans rfl, (blk_cell BK346.out 2).trans rfl, (blk_cell BK346.out 3).trans rfl, (blk_cell BK346.out 4).trans rfl, (blk_cell BK346.out 5).trans rfl, (blk_cell BK354.out 0).trans rfl, (blk_cell BK354.out 1).trans rfl, (blk_cell BK358.out 0).trans rfl, (blk_cell BK358.out 1).trans rfl, (blk_cell BK313.out 0).trans rfl, (blk_cell BK313.out 1).trans rfl, (blk_cell BK313.out 2).trans rfl, (blk_cell BK313.out 3).trans rfl⟩ (fun hHeld => ?_); refine with_tabW flyleaflaw15_RegionAsks.tab22 flyleaflaw15_RegionAsks.bits22 (fun HT_ HW_ => ?_)
       generalize wr.drew = w79 at HO_6 HO_23 BK313 BK338 BK346 BK354 BK358 HB hHeld ⊢
       refine pure_ (i := 0) (N := some 114) (v := ?_) (a' := ?_) z1_ rfl rfl (any_of HT_.out (by kernel_rfl)) (fun _ _ _ h => h) (Or.inl ⟨by rfl, ?_⟩) ?_ ?_; rotate_left; intro w'; go_simp; with_reducible rfl; rotate_left; simp only [Act.put, sA_, sB_, sC_, i64_w, i32_w]; rfl
       refine pure_ (i := 1) (N := some 115) (v := ?_) (a' := ?_) z2_ rfl rfl (any_of HT_.out (by kernel_rfl)) (fun _ _ _ h => h) (Or.inl ⟨by rfl, ?_⟩) ?_ ?_; rotate_left; intro w'; go_simp; with_reducible rfl; rotate_left; simp only [Act.put, sA_, sB_, sC_, i64_w, i32_w]; rfl
       refine take_ (i := 2) (N := some 116) (v := ?_) (a' := ?_) z3_ rfl rfl (take_ofW HT_.out HW_.out (by kernel_rfl)) (fun _ _ _ h => h) (Or.inl ⟨by rfl, ?_⟩) hHeld ?_ ?_; rotate_left; rintro w' ⟨s0, s1, s2, s3, s4, s5, s6, s7, s8, s9, s10, s11, s12, s13, s14, s15, s16, s17, s18, s19⟩; go_simp; with_reducible rfl; rotate_left; simp only [Act.put, sA_, sB_, sC_, i64_w, i32_w]; rfl
       refine take_ (i := 3) (N := some 117) (v := ?_) (a' := ?_) z4_ rfl rfl (take_ofW HT_.out HW_.out (by kernel_rfl)) (fun _ _ _ h => h) (Or.inl ⟨by rfl, ?_⟩) hHeld ?_ ?_; rotate_left; rintro w' ⟨s0, s1, s2, s3, s4, s5, s6, s7, s8, s9, s10, s11, s12, s13, s14, s15, s16, s17, s18, s19⟩; go_simp; with_reducible rfl; rotate_left; simp only [Act.put, sA_, sB_, sC_, i64_w, i32_w]; rfl
       refine pure_ (i := 4) (N := some 118) (v := ?_) (a' := ?_) z5_ rfl rfl (any_of HT_.out (by kernel_rfl)) (fun _ _ _ h => h) (Or.inl ⟨by rfl, ?_⟩) ?_ ?_; rotate_left; intro w'; go_simp; with_reducible rfl; rotate_left; simp only [Act.put, sA_, sB_, sC_, i64_w, i32_w]; rfl
       refine pure_ (i := 5) (N := some 119) (v := ?_) (a' := ?_) z6_ rfl rfl (any_of HT_.out (by kernel_rfl)) (fun _ _ _ h => h) (Or.inl ⟨by rfl, ?_⟩) ?_ ?_; rotate_left; intro w'; go_simp; with_reducible rfl; rotate_left; simp only [Act.put, sA_, sB_, sC_, i64_w, i32_w]; rfl
       refine pure_ (i := 6) (N := some 120) (v := ?_) (a' := ?_) z7_ rfl rfl (any_of HT_.out (by kernel_rfl)) (fun _ _ _ h => h) (Or.inl ⟨by rfl, ?_⟩) ?_ ?_; rotate_left; intro w'; go_simp; with_reducible rfl; rotate_left; simp only [Act.put, sA_, sB_, sC_, i64_w, i32_w]; rfl
       refine pure_ (i := 7) (N := some 121) (v := ?_) (a' := ?_) z8_ rfl rfl (any_of HT_.out (by kernel_rfl)) (fun _ _ _ h => h) (Or.inl ⟨by rfl, ?_⟩) ?_ ?_; rotate_left; intro w'; go_simp; with_reducible rfl; rotate_left; simp only [Act.put, sA_, sB_, sC_, i64_w, i32_w]; rfl
       refine pure_ (i := 8) (N := some 122) (v := ?_) (a' := ?_) z9_ rfl rfl (any_of HT_.out (by kernel_rfl)) (fun _ _ _ h => h) (Or.inl ⟨by rfl, ?_⟩) ?_ ?_; rotate_left; intro w'; go_simp; with_reducible rfl; rotate_left; simp only [Act.put, sA_, sB_, sC_, i64_w, i32_w]; rfl
       refine pure_ (i := 9) (N := some 123) (v := ?_) (a' := ?_) z10_ rfl rfl (any_of HT_.out (by kernel_rfl)) (fun _ _ _ h => h) (Or.inl ⟨by rfl, ?_⟩) ?_ ?_; rotate_left; intro w'; go_simp; with_reducible rfl; rotate_left; simp only [Act.put, sA_, sB_, sC_, i64_w, i32_w]; rfl
       refine pure_ (i := 10) (N := some 124) (v := ?_) (a' := ?_) z11_ rfl rfl (any_of HT_.out (by kernel_rfl)) (fun _ _ _ h => h) (Or.inl ⟨by rfl, ?_⟩) ?_ ?_; rotate_left; intro w'; go_simp; with_reducible rfl; rotate_left; simp only [Act.put, sA_, sB_, sC_, i64_w, i32_w]; rfl
       refine pure_ (i := 11) (N := some 125) (v := ?_) (a' := ?_) z12_ rfl rfl (any_of HT_.out (by kernel_rfl)) (fun _ _ _ h => h) (Or.inl ⟨by rfl, ?_⟩) ?_ ?_; rotate_left; intro w'; go_simp; with_reducible rfl; rotate_left; simp only [Act.put, sA_, sB_, sC_, i64_w, i32_w]; rfl
       refine pure_ (i := 12) (N := some 126) (v := ?_) (a' := ?_) z13_ rfl rfl (any_of HT_.out (by kernel_rfl)) (fun _ _ _ h => h) (Or.inl ⟨by rfl, ?_⟩) ?_ ?_; rotate_left; intro w'; go_simp; with_reducible rfl; rotate_left; simp only [Act.put, sA_, sB_, sC_, i64_w, i32_w]; rfl
       refine pure_ (i := 13) (N := some 127) (v := ?_) (a' := ?_) z14_ rfl rfl (any_of HT_.out (by kernel_rfl)) (fun _ _ _ h => h) (Or.inl ⟨by rfl, ?_⟩) ?_ ?_; rotate_left; intro w'; go_simp; with_reducible rfl; rotate_left; simp only [Act.put, sA_, sB_, sC_, i64_w, i32_w]; rfl
       refine pure_ (i := 14) (N := some 128) (v := ?_) (a' := ?_) z15_ rfl rfl (any_of HT_.out (by kernel_rfl)) (fun _ _ _ h => h) (Or.inl ⟨by rfl, ?_⟩) ?_ ?_; rotate_left; intro w'; go_simp; with_reducible rfl; rotate_left; simp only [Act.put, sA_, sB_, sC_, i64_w, i32_w]; rfl
       refine pure_ (i := 15) (N := some 129) (v := ?_) (a' := ?_) z16_ rfl rfl (any_of HT_.out (by kernel_rfl)) (fun _ _ _ h => h) (Or.inl ⟨by rfl, ?_⟩) ?_ ?_; rotate_left; intro w'; go_simp; with_reducible rfl; rotate_left; simp only [Act.put, sA_, sB_, sC_, i64_w, i32_w]; rfl
       refine pure_ (i := 16) (N := some 130) (v := ?_) (a' := ?_) z17_ rfl rfl (any_of HT_.out (by kernel_rfl)) (fun _ _ _ h => h) (Or.inl ⟨by rfl, ?_⟩) ?_ ?_; rotate_left; intro w'; go_simp; with_reducible rfl; rotate_left; simp only [Act.put, sA_, sB_, sC_, i64_w, i32_w]; rfl
       refine pure_ (i := 17) (N := some 131) (v := ?_) (a' := ?_) z18_ rfl rfl (any_of HT_.out (by kernel_rfl)) (fun _ _ _ h => h) (Or.inl ⟨by rfl, ?_⟩) ?_ ?_; rotate_left; intro w'; go_simp; with_reducible rfl; rotate_left; simp only [Act.put, sA_, sB_, sC_, i64_w, i32_w]; rfl
       refine pure_ (i := 18) (N := some 132) (v := ?_) (a' := ?_) z19_ rfl rfl (any_of HT_.out (by kernel_rfl)) (fun _ _ _ h => h) (Or.inl ⟨by rfl, ?_⟩) ?_ ?_; rotate_left; intro w'; go_simp; with_reducible rfl; rotate_left; simp only [Act.put, sA_, sB_, sC_, i64_w, i32_w]; rfl
       refine pure_ (i := 19) (N := some 133) (v := ?_) (a' := ?_) z20_ rfl rfl (any_of HT_.out (by kernel_rfl)) (fun _ _ _ h => h) (Or.inl ⟨by rfl, ?_⟩) ?_ ?_; rotate_left; intro w'; go_simp; with_reducible rfl; rotate_left; simp only [Act.put, sA_, sB_, sC_, i64_w, i32_w]; rfl
       refine pure_ (i := 20) (N := some 134) (v := ?_) (a' := ?_) z21_ rfl rfl (any_of HT_.out (by kernel_rfl)) (fun _ _ _ h => h) (Or.inl ⟨by rfl, ?_⟩) ?_ ?_; rotate_left; intro w'; go_simp; with_reducible rfl; rotate_left; simp only [Act.put, sA_, sB_, sC_, i64_w, i32_w]; rfl
       refine pure_ (i := 21) (N := some 135) (v := ?_) (a' := ?_) z22_ rfl rfl (any_of HT_.out (by kernel_rfl)) (fun _ _ _ h => h) (Or.inl ⟨by rfl, ?_⟩) ?_ ?_; rotate_left; intro w'; go_simp; with_reducible rfl; rotate_left; simp only [Act.put, sA_, sB_, sC_, i64_w, i32_w]; rfl
       refine take_ (i := 22) (N := some 136) (v := ?_) (a' := ?_) z23_ rfl rfl (take_ofW HT_.out HW_.out (by kernel_rfl)) (fun _ _ _ h => h) (Or.inl ⟨by rfl, ?_⟩) hHeld ?_ ?_; rotate_left; rintro w' ⟨s0, s1, s2, s3, s4, s5, s6, s7, s8, s9, s10, s11, s12, s13, s14, s15, s16, s17, s18, s19⟩; go_simp; with_reducible rfl; rotate_left; simp only [Act.put, sA_, sB_, sC_, i64_w, i32_w]; rfl
       refine take_ (i := 23) (N := some 137) (v := ?_) (a' := ?_) z24_ rfl rfl (take_ofW HT_.out HW_.out (by kernel_rfl)) (fun _ _ _ h => h) (Or.inl ⟨by rfl, ?_⟩) hHeld ?_ ?_; rotate_left; rintro w' ⟨s0, s1, s2, s3, s4, s5, s6, s7, s8, s9, s10, s11, s12, s13, s14, s15, s16, s17, s18, s19⟩; go_simp; with_reducible rfl; rotate_left; simp only [Act.put, sA_, sB_, sC_, i64_w, i32_w]; rfl
       refine pure_ (i := 24) (N := some 138) (v := ?_) (a' := ?_) z25_ rfl rfl (any_of HT_.out (by kernel_rfl)) (fun _ _ _ h => h) (Or.inl ⟨by rfl, ?_⟩) ?_ ?_; rotate_left; intro w'; go_simp; with_reducible rfl; rotate_left; simp only [Act.put, sA_, sB_, sC_, i64_w, i32_w]; rfl
       refine pure_ (i := 25) (N := some 139) (v := ?_) (a' := ?_) z26_ rfl rfl (any_of HT_.out (by kernel_rfl)) (fun _ _ _ h => h) (Or.inl ⟨by rfl, ?_⟩) ?_ ?_; rotate_left; intro w'; go_simp; with_reducible rfl; rotate_left; simp only [Act.put, sA_, sB_, sC_, i64_w, i32_w]; rfl
       refine pure_ (i := 26) (N := some 140) (v := ?_) (a' := ?_) z27_ rfl rfl (any_of HT_.out (by kernel_rfl)) (fun _ _ _ h => h) (Or.inl ⟨by rfl, ?_⟩) ?_ ?_; rotate_left; intro w'; go_simp; with_reducible rfl; rotate_left; simp only [Act.put, sA_, sB_, sC_, i64_w, i32_w]; rfl
       refine pure_ (i := 27) (N := some 141) (v := ?_) (a' := ?_) z28_ rfl rfl (any_of HT_.out (by kernel_rfl)) (fun _ _ _ h => h) (Or.inl ⟨by rfl, ?_⟩) ?_ ?_; rotate_left; intro w'; go_simp; with_reducible rfl; rotate_left; simp only [Act.put, sA_, sB_, sC_, i64_w, i32_w]; rfl
       refine pure_ (i := 28) (N := some 142) (v := ?_) (a' := ?_) z29_ rfl rfl (any_of HT_.out (by kernel_rfl)) (fun _ _ _ h => h) (Or.inl ⟨by rfl, ?_⟩) ?_ ?_; rotate_left; intro w'; go_simp; with_reducible rfl; rotate_left; simp only [Act.put, sA_, sB_, sC_, i64_w, i32_w]; rfl
       refine pure_ (i := 29) (N := some 143) (v := ?_) (a' := ?_) z30_ rfl rfl (any_of HT_.out (by kernel_rfl)) (fun _ _ _ h => h) (Or.inl ⟨by rfl, ?_⟩) ?_ ?_; rotate_left; intro w'; go_simp; with_reducible rfl; rotate_left; simp only [Act.put, sA_, sB_, sC_, i64_w, i32_w]; rfl
       refine pure_ (i := 30) (N := some 144) (v := ?_) (a' := ?_) z31_ rfl rfl (any_of HT_.out (by kernel_rfl)) (fun _ _ _ h => h) (Or.inl ⟨by rfl, ?_⟩) ?_ ?_; rotate_left; intro w'; go_simp; with_reducible rfl; rotate_left; simp only [Act.put, sA_, sB_, sC_, i64_w, i32_w]; rfl
       refine pure_ (i := 31) (N := some 145) (v := ?_) (a' := ?_) z32_ rfl rfl (any_of HT_.out (by kernel_rfl)) (fun _ _ _ h => h) (Or.inl ⟨by rfl, ?_⟩) ?_ ?_; rotate_left; intro w'; go_simp; with_reducible rfl; rotate_left; simp only [Act.put, sA_, sB_, sC_, i64_w, i32_w]; rfl
       refine pure_ (i := 32) (N := some 146) (v := ?_) (a' := ?_) z33_ rfl rfl (any_of HT_.out (by kernel_rfl)) (fun _ _ _ h => h) (Or.inl ⟨by rfl, ?_⟩) ?_ ?_; rotate_left; intro w'; go_simp; with_reducible rfl; rotate_left; simp only [Act.put, sA_, sB_, sC_, i64_w, i32_w]; rfl
       refine pure_ (i := 33) (N := some 147) (v := ?_) (a' := ?_) z34_ rfl rfl (any_of HT_.out (by kernel_rfl)) (fun _ _ _ h => h) (Or.inl ⟨by rfl, ?_⟩) ?_ ?_; rotate_left; intro w'; go_simp; with_reducible rfl; rotate_left; simp only [Act.put, sA_, sB_, sC_, i64_w, i32_w]; rfl
       refine pure_ (i := 35) (N := some 149) (v := ?_) (a' := ?_) z54_ rfl rfl (any_of HT_.out (by kernel_rfl)) (fun _ _ _ h => h) (Or.inl ⟨by rfl, ?_⟩) ?_ ?_; rotate_left; intro w'; go_simp; with_reducible rfl; rotate_left; simp only [Act.put, sA_, sB_, sC_, i64_w, i32_w]; rfl
       refine pure_ (i := 38) (N := some 152) (v := ?_) (a' := ?_) z55_ rfl rfl (any_of HT_.out (by kernel_rfl)) (fun _ _ _ h => h) (Or.inl ⟨by rfl, ?_⟩) ?_ ?_; rotate_left; intro w'; go_simp; with_reducible rfl; rotate_left; simp only [Act.put, sA_, sB_, sC_, i64_w, i32_w]; rfl
       refine pure_ (i := 39) (N := some 153) (v := ?_) (a' := ?_) z56_ rfl rfl (any_of HT_.out (by kernel_rfl)) (fun _ _ _ h => h) (Or.inl ⟨by rfl, ?_⟩) ?_ ?_; rotate_left; intro w'; go_simp; with_reducible rfl; rotate_left; simp only [Act.put, sA_, sB_, sC_, i64_w, i32_w]; rfl
       refine pure_ (i := 41) (N := some 155) (v := ?_) (a' := ?_) z57_ rfl rfl (any_of HT_.out (by kernel_rfl)) (fun _ _ _ h => h) (Or.inl ⟨by rfl, ?_⟩) ?_ ?_; rotate_left; intro w'; go_simp; with_reducible rfl; rotate_left; simp only [Act.put, sA_, sB_, sC_, i64_w, i32_w]; rfl
       refine take_ (i := 34) (N := some 148) (v := ?_) (a' := ?_) z58_ rfl rfl (take_ofW HT_.out HW_.out (by kernel_rfl)) (fun _ _ _ h => h) (Or.inl ⟨by rfl, ?_⟩) hHeld ?_ ?_; rotate_left; rintro w' ⟨s0, s1, s2, s3, s4, s5, s6, s7, s8, s9, s10, s11, s12, s13, s14, s15, s16, s17, s18, s19⟩; go_simp; with_reducible rfl; rotate_left; simp only [Act.put, sA_, sB_, sC_, i64_w, i32_w]; rfl
       refine take_ (i := 36) (N := some 150) (v := ?_) (a' := ?_) z59_ rfl rfl (take_ofW HT_.out HW_.out (by kernel_rfl)) (fun _ _ _ h => h) (Or.inl ⟨by rfl, ?_⟩) hHeld ?_ ?_; rotate_left; rintro w' ⟨s0, s1, s2, s3, s4, s5, s6, s7, s8, s9, s10, s11, s12, s13, s14, s15, s16, s17, s18, s19⟩; go_simp; with_reducible rfl; rotate_left; simp only [Act.put, sA_, sB_, sC_, i64_w, i32_w]; rfl
       refine take_ (i := 40) (N := some 154) (v := ?_) (a' := ?_) z60_ rfl rfl (take_ofW HT_.out HW_.out (by kernel_rfl)) (fun _ _ _ h => h) (Or.inl ⟨by rfl, ?_⟩) hHeld ?_ ?_; rotate_left; rintro w' ⟨s0, s1, s2, s3, s4, s5, s6, s7, s8, s9, s10, s11, s12, s13, s14, s15, s16, s17, s18, s19⟩; go_simp; with_reducible rfl; rotate_left; simp only [Act.put, sA_, sB_, sC_, i64_w, i32_w]; rfl
       refine take_ (i := 42) (N := some 156) (v := ?_) (a' := ?_) z61_ rfl rfl (take_ofW HT_.out HW_.out (by kernel_rfl)) (fun _ _ _ h => h) (Or.inl ⟨by rfl, ?_⟩) hHeld ?_ ?_; rotate_left; rintro w' ⟨s0, s1, s2, s3, s4, s5, s6, s7, s8, s9, s10, s11, s12, s13, s14, s15, s16, s17, s18, s19⟩; go_simp; with_reducible rfl; rotate_left; simp only [Act.put, sA_, sB_, sC_, i64_w, i32_w]; rfl
       refine one_ (i := 37) (N := some 151) z43_ rfl rfl (one_of HT_.out (by kernel_rfl)) (by decide) (fun K hK => ?_)
       refine goes_ Try.func39 (by kernel_rfl) rfl #[.slice Ao28 x6_1.length co28, .int .i64 a1_1, .int .i64 a1_2] (by rfl) rfl rfl (by (try simp only [List.map_toArray, List.map_cons, List.map_nil]); first | done | rfl | (simp only [List.length_drop, List.length_take]; rfl)) ?_
       with_reducible refine (region_Covers.calls k3 _ _ x6_1 a1_1 a1_2 t363 _ ?side1 ?side2 A74.out).mono ?_
       (case side1 => repeat (first | exact (Kd.R_reads' HO_6.out).2.2 | (with_reducible refine Kd.C_alloc ?_ _) | (with_reducible refine Kd.C_drewN ?_ _) | (with_reducible refine Kd.C_drew ?_)))
       (case side2 => exact (Kd.R_reads' HO_6.out).2.1)
       rintro e w80 ⟨rfl, hb⟩
       refine ⟨_, rfl, ?_⟩
       have n0_ := Aside0.mk (Kd.R_below (by (with_reducible repeat (first | apply Kd.R_alloc | apply Kd.R_drewN | apply Kd.R_drew)); exact HO_6.out) hb)
       have n1_ := Aside0.mk (Kd.R_below (by (with_reducible repeat (first | apply Kd.R_alloc | apply Kd.R_drewN | apply Kd.R_drew)); exact HO_23.out) hb)
       have n2_ := Aside0.mk (blk_below (g := gb313) (o := .cells #[.int .i64 a1_0, .int .i64 a1_1, .int .i64 a1_2, .int .i64 a1_3] 39 (0, 0)) (by (with_reducible repeat (first | refine blk_drewN ?_ _ | refine blk_drew ?_ | refine blk_alloc ?_ _)); exact BK313.out) hb)
       have n3_ := Aside0.mk (blk_below (g := gb338) (o := .cells #[.int .i64 t331, .int .i64 t332, .int .i64 t333, .int .i64 t334, .int .i64 t335, .int .i64 t336] 41 (0, 0)) (by (with_reducible repeat (first | refine blk_drewN ?_ _ | refine blk_drew ?_ | refine blk_alloc ?_ _)); exact BK338.out) hb)
       have n4_ := Aside0.mk (blk_below (g := gb346) (o := .cells #[.int .i64 t339, .int .i64 t340, .int .i64 t341, .int .i64 t342, .int .i64 t343, .int .i64 t344] 41 (0, 0)) (by (with_reducible repeat (first | refine blk_drewN ?_ _ | refine blk_drew ?_ | refine blk_alloc ?_ _)); exact BK346.out) hb)
       have n5_ := Aside0.mk (blk_below (g := gb354) (o := .cells #[.int .i64 t351, .int .i64 t352] 77 (0, 0)) (by (with_reducible repeat (first | refine blk_drewN ?_ _ | refine blk_drew ?_ | refine blk_alloc ?_ _)); exact BK354.out) hb)
       have n6_ := Aside0.mk (blk_below (g := gb358) (o := .cells #[.int .i64 t355, .int .i64 t356] 77 (0, 0)) (by (with_reducible repeat (first | refine blk_drewN ?_ _ | refine blk_drew ?_ | refine blk_alloc ?_ _)); exact BK358.out) hb)
       have n7_ := Aside0.mk (below_step (by repeat (first | (with_reducible first | exact HB.out | apply below_alloc | apply pw_below_drewN | apply below_drew1 | refine below_set ?_ GE313.out | refine below_set ?_ GE338.out | refine below_set ?_ GE346.out | refine below_set ?_ GE354.out | refine below_set ?_ GE358.out) | exact HB.out)) hb)
       clear HO_6
       clear HO_23
       clear BK313
       clear BK338
       clear BK346
       clear BK354
       clear BK358
       clear HB
       have HO_6 := n0_
       have HO_23 := n1_
       have BK313 := n2_
       have BK338 := n3_
       have BK346 := n4_
       have BK354 := n5_
       have BK358 := n6_
       have HB := n7_
       clear n0_ n1_ n2_ n3_ n4_ n5_ n6_ n7_
       (try clear hb)
       (try clear hb2)
       (try clear hk)
       (try clear hi)
       refine hK.out _ _ ⟨(blk_cell BK338.out 0).trans rfl, (blk_cell BK338.out 1).trans rfl, (blk_cell BK338.out 2).trans rfl, (blk_cell BK338.out 3).trans rfl, (blk_cell BK338.out 4).trans rfl, (blk_cell BK338.out 5).trans rfl, (blk_cell BK346.out 0).trans rfl, (blk_cell BK346.out 1).trans rfl, (blk_cell BK346.out 2).trans rfl, (blk_cell BK346.out 3).trans rfl, (blk_cell BK346.out 4).trans rfl, (blk_cell BK346.out 5).trans rfl, (blk_cell BK354.out 0).trans rfl, (blk_cell BK354.out 1).trans rfl, (blk_cell BK358.out 0).trans rfl, (blk_cell BK358.out 1).trans rfl, (blk_cell BK313.out 0).trans rfl, (blk_cell BK313.out 1).trans rfl, (blk_cell BK313.out 2).trans rfl, (blk_cell BK313.out 3).trans rfl⟩ (fun hHeld => ?_)
       clear hK K
       refine norm_ (a' := ?_) ?_ ?_
       rotate_left
       · show Act.put _ (some 151) _ = _
         simp only [Act.put, sA_, sB_, sC_, i64_w, i32_w]
         rfl
       refine one_ (i := 43) (N := some 157) z44_ rfl rfl (one_of HT_.out (by kernel_rfl)) (by decide) (fun K hK => ?_)
       refine goes_ Try.func45 (by kernel_rfl) rfl #[.slice Ao28 x6_1.length co28, .int .i64 a1_1, .int .i64 a1_2] (by rfl) rfl rfl (by (try simp only [List.map_toArray, List.map_cons, List.map_nil]); first | done | rfl | (simp only [List.length_drop, List.length_take]; rfl)) ?_
       with_reducible refine (flyleafref15_Covers.calls k3 _ _ x6_1 a1_1 a1_2 t364 _ ?side1 ?side2 A75.out).mono ?_
       (case side1 => repeat (first | exact (Kd.R_reads' HO_6.out).2.2 | (with_reducible refine Kd.C_alloc ?_ _) | (with_reducible refine Kd.C_drewN ?_ _) | (with_reducible refine Kd.C_drew ?_)))
       (case side2 => exact (Kd.R_reads' HO_6.out).2.1)
       rintro e w81 ⟨rfl, hb⟩
       refine ⟨_, rfl, ?_⟩
       have n0_ := Aside0.mk (Kd.R_below (by (with_reducible repeat (first | apply Kd.R_alloc | apply Kd.R_drewN | apply Kd.R_drew)); exact HO_6.out) hb)
       have n1_ := Aside0.mk (Kd.R_below (by (with_reducible repeat (first | apply Kd.R_alloc | apply Kd.R_drewN | apply Kd.R_drew)); exact HO_23.out) hb)
       have n2_ := Aside0.mk (blk_below (g := gb313) (o := .cells #[.int .i64 a1_0, .int .i64 a1_1, .int .i64 a1_2, .int .i64 a1_3] 39 (0, 0)) (by (with_reducible repeat (first | refine blk_drewN ?_ _ | refine blk_drew ?_ | refine blk_alloc ?_ _)); exact BK313.out) hb)
       have n3_ := Aside0.mk (blk_below (g := gb338) (o := .cells #[.int .i64 t331, .int .i64 t332, .int .i64 t333, .int .i64 t334, .int .i64 t335, .int .i64 t336] 41 (0, 0)) (by (with_reducible repeat (first | refine blk_drewN ?_ _ | refine blk_drew ?_ | refine blk_alloc ?_ _)); exact BK338.out) hb)
       have n4_ := Aside0.mk (blk_below (g := gb346) (o := .cells #[.int .i64 t339, .int .i64 t340, .int .i64 t341, .int .i64 t342, .int .i64 t343, .int .i64 t344] 41 (0, 0)) (by (with_reducible repeat (first | refine blk_drewN ?_ _ | refine blk_drew ?_ | refine blk_alloc ?_ _)); exact BK346.out) hb)
       have n5_ := Aside0.mk (blk_below (g := gb354) (o := .cells #[.int .i64 t351, .int .i64 t352] 77 (0, 0)) (by (with_reducible repeat (first | refine blk_drewN ?_ _ | refine blk_drew ?_ | refine blk_alloc ?_ _)); exact BK354.out) hb)
       have n6_ := Aside0.mk (blk_below (g := gb358) (o := .cells #[.int .i64 t355, .int .i64 t356] 77 (0, 0)) (by (with_reducible repeat (first | refine blk_drewN ?_ _ | refine blk_drew ?_ | refine blk_alloc ?_ _)); exact BK358.out) hb)
       have n7_ := Aside0.mk (below_step (by repeat (first | (with_reducible first | exact HB.out | apply below_alloc | apply pw_below_drewN | apply below_drew1 | refine below_set ?_ GE313.out | refine below_set ?_ GE338.out | refine below_set ?_ GE346.out | refine below_set ?_ GE354.out | refine below_set ?_ GE358.out) | exact HB.out)) hb)
       clear HO_6
       clear HO_23
       clear BK313
       clear BK338
       clear BK346
       clear BK354
       clear BK358
       clear HB
       have HO_6 := n0_
       have HO_23 := n1_
       have BK313 := n2_
       have BK338 := n3_
       have BK346 := n4_
       have BK354 := n5_
       have BK358 := n6_
       have HB := n7_
       clear n0_ n1_ n2_ n3_ n4_ n5_ n6_ n7_
       (try clear hb)
       (try clear hb2)
       (try clear hk)
       (try clear hi)
       refine hK.out _ _ ⟨(blk_cell BK338.out 0).trans rfl, (blk_cell BK338.out 1).trans rfl, (blk_cell BK338.out 2).trans rfl, (blk_cell BK338.out 3).trans rfl, (blk_cell BK338.out 4).trans rfl, (blk_cell BK338.out 5).trans rfl, (blk_cell BK346.out 0).trans rfl, (blk_cell BK346.out 1).trans rfl, (blk_cell BK346.out 2).trans rfl, (blk_cell BK346.out 3).trans rfl, (blk_cell BK346.out 4).trans rfl, (blk_cell BK346.out 5).trans rfl, (blk_cell BK354.out 0).trans rfl, (blk_cell BK354.out 1).trans rfl, (blk_cell BK358.out 0).trans rfl, (blk_cell BK358.out 1).trans rfl, (blk_cell BK313.out 0).trans rfl, (blk_cell BK313.out 1).trans rfl, (blk_cell BK313.out 2).trans rfl, (blk_cell BK313.out 3).trans rfl⟩ (fun hHeld => ?_)
       clear hK K
       refine norm_ (a' := ?_) ?_ ?_
       rotate_left
       · show Act.put _ (some 157) _ = _
         simp only [Act.put, sA_, sB_, sC_, i64_w, i32_w]
         rfl
       refine pure_ (i := 44) (N := some 158) (v := ?_) (a' := ?_) z45_ rfl rfl (any_of HT_.out (by kernel_rfl)) (fun _ _ _ h => h) (Or.inl ⟨by rfl, ?_⟩) ?_ ?_; rotate_left; intro w'; go_simp; with_reducible rfl; rotate_left; simp only [Act.put, sA_, sB_, sC_, i64_w, i32_w]; rfl
       refine pure_ (i := 45) (N := some 159) (v := ?_) (a' := ?_) z46_ rfl rfl (any_of HT_.out (by kernel_rfl)) (fun _ _ _ h => h) (Or.inl ⟨by rfl, ?_⟩) ?_ ?_; rotate_left; intro w'; go_simp; with_reducible rfl; rotate_left; simp only [Act.put, sA_, sB_, sC_, i64_w, i32_w]; rfl
       refine pure_ (i := 46) (N := some 160) (v := ?_) (a' := ?_) z47_ rfl rfl (any_of HT_.out (by kernel_rfl)) (fun _ _ _ h => h) (Or.inl ⟨by rfl, ?_⟩) ?_ ?_; rotate_left; intro w'; go_simp; with_reducible rfl; rotate_left; simp only [Act.put, sA_, sB_, sC_, i64_w, i32_w]; rfl
       refine pure_ (i := 47) (N := some 161) (v := ?_) (a' := ?_) z48_ rfl rfl (any_of HT_.out (by kernel_rfl)) (fun _ _ _ h => h) (Or.inl ⟨by rfl, ?_⟩) ?_ ?_; rotate_left; intro w'; go_simp; with_reducible rfl; rotate_left; simp only [Act.put, sA_, sB_, sC_, i64_w, i32_w]; rfl
       refine pure_ (i := 49) (N := some 163) (v := ?_) (a' := ?_) z62_ rfl rfl (any_of HT_.out (by kernel_rfl)) (fun _ _ _ h => h) (Or.inl ⟨by rfl, ?_⟩) ?_ ?_; rotate_left; intro w'; go_simp; with_reducible rfl; rotate_left; simp only [Act.put, sA_, sB_, sC_, i64_w, i32_w]; rfl
       refine one_ (i := 48) (N := some 162) z50_ rfl rfl (one_of HT_.out (by kernel_rfl)) (by decide) (fun K hK => ?_)
       refine goes_ Try.func46 (by kernel_rfl) rfl #[.slice Ao28 x6_1.length co28] (by rfl) rfl rfl (by (try simp only [List.map_toArray, List.map_cons, List.map_nil]); first | done | rfl | (simp only [List.length_drop, List.length_take]; rfl)) ?_
       with_reducible refine (region_Pages.calls k3 _ _ x6_1 t365 _ ?side1 ?side2 A77.out).mono ?_
       (case side1 => repeat (first | exact (Kd.R_reads' HO_6.out).2.2 | (with_reducible refine Kd.C_alloc ?_ _) | (with_reducible refine Kd.C_drewN ?_ _) | (with_reducible refine Kd.C_drew ?_)))
       (case side2 => exact (Kd.R_reads' HO_6.out).2.1)
       rintro e w82 ⟨rfl, hb⟩
       refine ⟨_, rfl, ?_⟩
       have n0_ := Aside0.mk (Kd.R_below (by (with_reducible repeat (first | apply Kd.R_alloc | apply Kd.R_drewN | apply Kd.R_drew)); exact HO_6.out) hb)
       have n1_ := Aside0.mk (Kd.R_below (by (with_reducible repeat (first | apply Kd.R_alloc | apply Kd.R_drewN | apply Kd.R_drew)); exact HO_23.out) hb)
       have n2_ := Aside0.mk (blk_below (g := gb313) (o := .cells #[.int .i64 a1_0, .int .i64 a1_1, .int .i64 a1_2, .int .i64 a1_3] 39 (0, 0)) (by (with_reducible repeat (first | refine blk_drewN ?_ _ | refine blk_drew ?_ | refine blk_alloc ?_ _)); exact BK313.out) hb)
       have n3_ := Aside0.mk (blk_below (g := gb338) (o := .cells #[.int .i64 t331, .int .i64 t332, .int .i64 t333, .int .i64 t334, .int .i64 t335, .int .i64 t336] 41 (0, 0)) (by (with_reducible repeat (first | refine blk_drewN ?_ _ | refine blk_drew ?_ | refine blk_alloc ?_ _)); exact BK338.out) hb)
       have n4_ := Aside0.mk (blk_below (g := gb346) (o := .cells #[.int .i64 t339, .int .i64 t340, .int .i64 t341, .int .i64 t342, .int .i64 t343, .int .i64 t344] 41 (0, 0)) (by (with_reducible repeat (first | refine blk_drewN ?_ _ | refine blk_drew ?_ | refine blk_alloc ?_ _)); exact BK346.out) hb)
       have n5_ := Aside0.mk (blk_below (g := gb354) (o := .cells #[.int .i64 t351, .int .i64 t352] 77 (0, 0)) (by (with_reducible repeat (first | refine blk_drewN ?_ _ | refine blk_drew ?_ | refine blk_alloc ?_ _)); exact BK354.out) hb)
       have n6_ := Aside0.mk (blk_below (g := gb358) (o := .cells #[.int .i64 t355, .int .i64 t356] 77 (0, 0)) (by (with_reducible repeat (first | refine blk_drewN ?_ _ | refine blk_drew ?_ | refine blk_alloc ?_ _)); exact BK358.out) hb)
       have n7_ := Aside0.mk (below_step (by repeat (first | (with_reducible first | exact HB.out | apply below_alloc | apply pw_below_drewN | apply below_drew1 | refine below_set ?_ GE313.out | refine below_set ?_ GE338.out | refine below_set ?_ GE346.out | refine below_set ?_ GE354.out | refine below_set ?_ GE358.out) | exact HB.out)) hb)
       clear HO_6
       clear HO_23
       clear BK313
       clear BK338
       clear BK346
       clear BK354
       clear BK358
       clear HB
       have HO_6 := n0_
       have HO_23 := n1_
       have BK313 := n2_
       have BK338 := n3_
       have BK346 := n4_
       have BK354 := n5_
       have BK358 := n6_
       have HB := n7_
       clear n0_ n1_ n2_ n3_ n4_ n5_ n6_ n7_
       (try clear hb)
       (try clear hb2)
       (try clear hk)
       (try clear hi)
       refine hK.out _ _ ⟨(blk_cell BK338.out 0).trans rfl, (blk_cell BK338.out 1).trans rfl, (blk_cell BK338.out 2).trans rfl, (blk_cell BK338.out 3).trans rfl, (blk_cell BK338.out 4).trans rfl, (blk_cell BK338.out 5).trans rfl, (blk_cell BK346.out 0).trans rfl, (blk_cell BK346.out 1).trans rfl, (blk_cell BK346.out 2).trans rfl, (blk_cell BK346.out 3).trans rfl, (blk_cell BK346.out 4).trans rfl, (blk_cell BK346.out 5).trans rfl, (blk_cell BK354.out 0).trans rfl, (blk_cell BK354.out 1).trans rfl, (blk_cell BK358.out 0).trans rfl, (blk_cell BK358.out 1).trans rfl, (blk_cell BK313.out 0).trans rfl, (blk_cell BK313.out 1).trans rfl, (blk_cell BK313.out 2).trans rfl, (blk_cell BK313.out 3).trans rfl⟩ (fun hHeld => ?_)
       clear hK K
       refine norm_ (a' := ?_) ?_ ?_
       rotate_left
       · show Act.put _ (some 162) _ = _
         simp only [Act.put, sA_, sB_, sC_, i64_w, i32_w]
         rfl
       refine pure_ (i := 50) (N := some 164) (v := ?_) (a' := ?_) z51_ rfl rfl (any_of HT_.out (by kernel_rfl)) (fun _ _ _ h => h) (Or.inl ⟨by rfl, ?_⟩) ?_ ?_; rotate_left; intro w'; go_simp; with_reducible rfl; rotate_left; simp only [Act.put, sA_, sB_, sC_, i64_w, i32_w]; rfl
       refine pure_ (i := 51) (N := some 165) (v := ?_) (a' := ?_) z52_ rfl rfl (any_of HT_.out (by kernel_rfl)) (fun _ _ _ h => h) (Or.inl ⟨by rfl, ?_⟩) ?_ ?_; rotate_left; intro w'; go_simp; with_reducible rfl; rotate_left; simp only [Act.put, sA_, sB_, sC_, i64_w, i32_w]; rfl
       refine pure_ (i := 52) (N := some 4) (v := ?_) (a' := ?_) z53_ rfl rfl (any_of HT_.out (by kernel_rfl)) (fun _ _ _ h => h) (Or.inl ⟨by rfl, ?_⟩) ?_ ?_; rotate_left; intro w'; go_simp; with_reducible rfl; rotate_left; simp only [Act.put, sA_, sB_, sC_, i64_w, i32_w]; rfl
       refine done_ (done_of HT_.out (by kernel_rfl)) ?_
       try go_wp2
       go_ret
       exact ⟨by first | rfl | (simp [errW_none, errW_some] <;> rfl) | (simp [*, errW_none, errW_some] <;> rfl), by repeat (first | (with_reducible first | exact HB.out | apply below_alloc | apply pw_below_drewN | apply below_drew1 | refine below_set ?_ GE313.out | refine below_set ?_ GE338.out | refine below_set ?_ GE346.out | refine below_set ?_ GE354.out | refine below_set ?_ GE358.out) | exact HB.out)⟩

end Go.Proofs.Ytafmeagfockdfaa.Rg
