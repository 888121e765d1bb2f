-- Written by prn.py, a program of this session over the kit's printer. Not trusted: Lean checks it.
import Derived.Test.YtafmeagfockdfaaRg0
import Derived.Test.YtafmeagfockdfaaRg2
import Derived.Test.YtafmeagfockdfaaRg4
import Derived.Test.YtafmeagfockdfaaRg5
import Derived.Test.YtafmeagfockdfaaRg7
import Derived.Test.YtafmeagfockdfaaRg11
import Derived.Test.YtafmeagfockdfaaRg12
import Derived.Test.YtafmeagfockdfaaRg14
import Derived.Test.YtafmeagfockdfaaRgTop
import Derived.Test.YtafmeagfockdfaaRg15d
import Derived.Test.YtafmeagfockdfaaSq
namespace Go.Proofs.Ytafmeagfockdfaa.Rg
open Go.Proofs.Ytafmeagfockdfaa.Sq
open Go.RowKit Go.Proofs.YtafmeagfockdfaaW.PrintWords Go.Proofs.YtafmeagfockdfaaW.PrintLast Go.Proofs.YtafmeagfockdfaaW.PrintMore
attribute [local go_sem] max2_int min2_int max_two min_two max_three min_three max_four min_four   -- for this text's walks alone
set_option linter.unusedVariables false
set_option linter.unusedSimpArgs false

attribute [local go_sem high] eqA77
set_option maxHeartbeats 80000000 in
set_option maxRecDepth 100000 in
theorem flyleaflaw15_RegionKeeps.calls (k : Nat) (A0 : Option Addr) (c0 : Nat) (l0 : List (S69)) (a1_0 : Int) (a1_1 : Int) (a1_2 : Int) (r : Bool) (w : World) (hr0 : Kd.C k69 w A0 l0.length l0) (hc0 : l0.length ≤ c0) (h : flyleaflaw15_RegionKeeps.f k l0 a1_0 a1_1 a1_2 = some r) :
    Calls Try.prog 9 #[.slice A0 l0.length c0, .agg #[.int .i64 a1_0, .int .i64 a1_1, .int .i64 a1_2]] w fun e w' => e = .returned (.bool r) ∧ Below w.heap.size w w' := by
 have hu67 := Try.underlying67
 have hu69 := Try.underlying69
 have hu41 := Try.underlying41
 have hu77 := Try.underlying77
 have HR0 := Aside0.mk hr0
 have HC0 := Aside0.mk hc0
 clear hr0 hc0
 have HB := Aside0.mk (Below.refl w.heap.size w)
 have H : ((flyleaflaw15_awake.f k).bind fun t242 => (flyleaflaw15_RegionKeeps.l0 k l0 t242 ([] : List (S41)) 0 a1_0 a1_1 a1_2)) = some r := h
 clear h
 replace H := Option.bind_eq_some_iff.mp H
 obtain ⟨t242, A30, H⟩ := H
 replace H : (flyleaflaw15_RegionKeeps.l0 k l0 t242 ([] : List (S41)) 0 a1_0 a1_1 a1_2) = some r := H
 have A3 := Aside0.mk A30
 clear A30
 have H' := Aside0.mk H
 clear H
 go_enter Try.func9, Try.ntmps9
 go_wp2_with (first | ((with_reducible refine gate_dst (N := 3) rfl ?_); refine box_event ?hg (N := 3) ?hd (cs := #[.int .i64 a1_0, .int .i64 a1_1, .int .i64 a1_2]) (t := 67) ?hr ?_; (case hd => rfl); (case hg => rfl); (case hr => first | (go_simp; done) | (go_simp; rfl)); intro gb241 hg w4 hbox hb; have n0_ := Aside0.mk (below_step (by repeat (first | (with_reducible first | exact HB.out | apply below_alloc | apply pw_below_drewN | apply below_drew1) | exact HB.out)) hb); have n1_ := Aside0.mk (hbox); have n2_ := Aside0.mk ((by rw [hg]; exact (below_size (by repeat (first | (with_reducible first | exact HB.out | apply below_alloc | apply pw_below_drewN | apply below_drew1) | exact HB.out))) : w.heap.size ≤ gb241)); have n3_ := Aside0.mk ((by rw [hg]; exact (below_size (by repeat (first | (with_reducible first | exact HB.out | apply below_alloc | apply pw_below_drewN | apply below_drew1) | exact HB.out))) : w.heap.size ≤ gb241)); clear HB; have HB := n0_; have BK241 := n1_; have GW241 := n2_; have GE241 := n3_; clear n0_ n1_ n2_ n3_; clear hb hbox hg) | ((with_reducible refine gate_callee (f := 23) rfl ?_); refine goesL_ (some 30) rfl rfl Try.func23 (by kernel_rfl) rfl #[] rfl (by (try simp only [List.map_toArray, List.map_cons, List.map_nil]); first | done | rfl | (simp only [List.length_drop, List.length_take]; rfl)) ?_; (with_reducible refine (flyleaflaw15_awake.calls k  t242 _ A3.out).mono ?_); rintro e w5 ⟨rfl, hb⟩; refine ⟨_, rfl, ?_⟩; have n0_ := Aside0.mk (blk_below (g := gb241) (o := .cells #[.int .i64 a1_0, .int .i64 a1_1, .int .i64 a1_2] 67 (0, 0)) (by (with_reducible repeat (first | refine blk_drewN ?_ _ | refine blk_drew ?_ | refine blk_alloc ?_ _)); exact BK241.out) hb); have n1_ := Aside0.mk (below_step (by repeat (first | (with_reducible first | exact HB.out | apply below_alloc | apply pw_below_drewN | apply below_drew1 | refine below_set ?_ GE241.out) | exact HB.out)) hb); clear BK241; clear HB; have BK241 := n0_; have HB := n1_; clear n0_ n1_; (try clear hb); (try clear hb2); (try clear hk); (try clear hi)))
 go_loopg [6, 7] k (fun kq v6 v7 w' => ∃ (x6_1 : List (S41)) (x7_1 : Int), v7 = .int .i64 x7_1 ∧ Aside0 (flyleaflaw15_RegionKeeps.l0 kq l0 t242 x6_1 x7_1 a1_0 a1_1 a1_2 = some r) ∧ Aside0 (kq ≤ k) ∧ Aside0 (Kd.R k41 41 w' w.heap.size (fun _ => True) v6 x6_1) ∧ Aside0 (w'.heap[gb241]? = some (.cells #[.int .i64 a1_0, .int .i64 a1_1, .int .i64 a1_2] 67 (0, 0))) ∧ Aside0 (Below w.heap.size w w'))
 case atStart => exact ⟨(([] : List (S41))), (0), (by first | rfl | (simp; done) | (simp [*]; done)), H', ⟨Nat.le_refl _⟩, ⟨by first | exact Kd.R_nil _ _ _ _ _ | exact Kd.N_nil _ _ _ _ _ | exact Kd.V_nil _ _ _ _ _ | exact Kd.Q_nil _ _ _ _ _ | exact Kd.S_nil _ _ _ _ _⟩, ⟨by (with_reducible repeat (first | refine blk_drewN ?_ _ | refine blk_drew ?_ | refine blk_alloc ?_ _)); exact BK241.out⟩, ⟨by repeat (first | (with_reducible first | exact HB.out | apply below_alloc | apply pw_below_drewN | apply below_drew1 | refine below_set ?_ GE241.out) | exact HB.out)⟩⟩
 case round =>
  clear H'
  try clear c2
  try clear p2
  obtain ⟨x6_1, x7_1, rfl, HA, HK1, HO_6, BK241, HB⟩ := hrel
  cases gk with
  | zero => exact absurd HA.out (by simp [flyleaflaw15_RegionKeeps.l0])
  | succ k1 =>
   have H := HA.out
   clear HA
   simp only [flyleaflaw15_RegionKeeps.l0] at H
   have HC6 := Aside0.mk H
   clear H
   go_upto_region 4 with (fail)
   go_cut [38] (fun v38 wc => ∃ (kq : Nat) (x38_5 : Bool), v38 = .bool x38_5 ∧ Aside0 (flyleaflaw15_RegionKeeps.j1 kq l0 t242 x6_1 x7_1 x38_5 a1_0 a1_1 a1_2 = some r) ∧ Aside0 (kq ≤ k1) ∧ Aside0 (Kd.R k41 41 wc w.heap.size (fun _ => True) u6 x6_1) ∧ Aside0 (wc.heap[gb241]? = some (.cells #[.int .i64 a1_0, .int .i64 a1_1, .int .i64 a1_2] 67 (0, 0))) ∧ Aside0 (Below w.heap.size w wc))
   case first =>
    have H := HC6.out
    clear HC6
    by_cases c7 : x7_1 < (l0.length : Int)
    rotate_left
    · rw [if_neg c7] at H
      have c7b0 : decide (x7_1 < (l0.length : Int)) = false := decide_eq_false c7
      clear c7
      (first | rw [c7b0] | (simp only [i64_w, i32_w]; rw [c7b0]) | skip)
      have H' := Aside0.mk H
      clear H
      go_wp2
      go_meet
      case rel => exact ⟨_, (false), (by first | rfl | (simp; done) | (simp [*]; done)), H', ⟨by have := HK1.out; first | omega | exact Nat.le_refl _⟩, ⟨by (with_reducible repeat (first | apply Kd.R_alloc | apply Kd.R_drewN | apply Kd.R_drew)); exact HO_6.out⟩, ⟨by (with_reducible repeat (first | refine blk_drewN ?_ _ | refine blk_drew ?_ | refine blk_alloc ?_ _)); exact BK241.out⟩, ⟨by repeat (first | (with_reducible first | exact HB.out | apply below_alloc | apply pw_below_drewN | apply below_drew1 | refine below_set ?_ GE241.out) | exact HB.out)⟩⟩
    rw [if_pos c7] at H
    have c7b0 : decide (x7_1 < (l0.length : Int)) = true := decide_eq_true c7
    clear c7
    (first | rw [c7b0] | (simp only [i64_w, i32_w]; rw [c7b0]) | skip)
    have H' := Aside0.mk H
    clear H
    go_wp2
    go_meet
    case rel => exact ⟨_, (decide (x7_1 < 10)), (by first | rfl | (simp; done) | (simp [*]; done)), H', ⟨by have := HK1.out; first | omega | exact Nat.le_refl _⟩, ⟨by (with_reducible repeat (first | apply Kd.R_alloc | apply Kd.R_drewN | apply Kd.R_drew)); exact HO_6.out⟩, ⟨by (with_reducible repeat (first | refine blk_drewN ?_ _ | refine blk_drew ?_ | refine blk_alloc ?_ _)); exact BK241.out⟩, ⟨by repeat (first | (with_reducible first | exact HB.out | apply below_alloc | apply pw_below_drewN | apply below_drew1 | refine below_set ?_ GE241.out) | exact HB.out)⟩⟩
   case rest =>
    clear HC6
    try clear c2
    try clear p2
    try clear c7
    try clear c7b0
    try clear p2
    obtain ⟨kq, x38_5, rfl, HA, HJ5, HO_6, BK241, HB⟩ := hcut
    cases kq with
    | zero => exact absurd HA.out (by simp [flyleaflaw15_RegionKeeps.j1])
    | succ kj5 =>
     have H := HA.out
     clear HA
     simp only [flyleaflaw15_RegionKeeps.j1] at H
     by_cases c8 : x38_5 = true
     · subst c8
       have H1 : (if 0 ≤ x7_1 then (if x7_1 < (l0.length : Int) then ((flyleaflaw15_Op_small.f ((rd_T69 l0 x7_1).f0) ((rd_T69 l0 x7_1).f1) ((rd_T69 l0 x7_1).f2) ((rd_T69 l0 x7_1).f3) ((rd_T69 l0 x7_1).f4) ((rd_T69 l0 x7_1).f5.f0) ((rd_T69 l0 x7_1).f5.f1) ((rd_T69 l0 x7_1).f5.f2) ((rd_T69 l0 x7_1).f5.f3) ((rd_T69 l0 x7_1).f5.f4) ((rd_T69 l0 x7_1).f5.f5)).bind fun bt244 => ((flyleaflaw15_Op_of.f kj5 bt244.1 bt244.2.1 bt244.2.2.1 bt244.2.2.2.1 bt244.2.2.2.2.1 bt244.2.2.2.2.2.1 bt244.2.2.2.2.2.2.1 bt244.2.2.2.2.2.2.2.1 bt244.2.2.2.2.2.2.2.2.1 bt244.2.2.2.2.2.2.2.2.2.1 bt244.2.2.2.2.2.2.2.2.2.2 x6_1).bind fun bt255 => (if bt255.2 = 0 then (flyleaflaw15_RegionKeeps.l0 kj5 l0 t242 bt255.1 (wrap64 (x7_1 + 1)) a1_0 a1_1 a1_2) else (flyleaflaw15_RegionKeeps.l0 kj5 l0 t242 x6_1 (wrap64 (x7_1 + 1)) a1_0 a1_1 a1_2)))) else (none)) else (none)) = some r := by rw [if_pos rfl] at H; exact H
       clear H
       have H := H1
       clear H1
       by_cases c9 : 0 ≤ x7_1
       rotate_left
       · rw [if_neg c9] at H
         exact absurd H (by simp)
       rw [if_pos c9] at H
       have c9b0 : decide (0 ≤ x7_1) = true := decide_eq_true c9
       clear c9
       by_cases c10 : x7_1 < (l0.length : Int)
       rotate_left
       · rw [if_neg c10] at H
         exact absurd H (by simp)
       rw [if_pos c10] at H
       have c10b0 : decide (x7_1 < (l0.length : Int)) = true := decide_eq_true c10
       clear c10
       replace H := Option.bind_eq_some_iff.mp H
       obtain ⟨⟨t244, t245, t246, t247, t248, t249, t250, t251, t252, t253, t254⟩, A110, H⟩ := H
       replace H : ((flyleaflaw15_Op_of.f kj5 t244 t245 t246 t247 t248 t249 t250 t251 t252 t253 t254 x6_1).bind fun bt255 => (if bt255.2 = 0 then (flyleaflaw15_RegionKeeps.l0 kj5 l0 t242 bt255.1 (wrap64 (x7_1 + 1)) a1_0 a1_1 a1_2) else (flyleaflaw15_RegionKeeps.l0 kj5 l0 t242 x6_1 (wrap64 (x7_1 + 1)) a1_0 a1_1 a1_2))) = some r := H
       have A11 := Aside0.mk A110
       clear A110
       replace H := Option.bind_eq_some_iff.mp H
       obtain ⟨⟨t255, t258⟩, A120, H⟩ := H
       replace H : (if t258 = 0 then (flyleaflaw15_RegionKeeps.l0 kj5 l0 t242 t255 (wrap64 (x7_1 + 1)) a1_0 a1_1 a1_2) else (flyleaflaw15_RegionKeeps.l0 kj5 l0 t242 x6_1 (wrap64 (x7_1 + 1)) a1_0 a1_1 a1_2)) = some r := H
       have A12 := Aside0.mk A120
       clear A120
       by_cases c13 : t258 = 0
       rotate_left
       · rw [if_neg c13] at H
         have c13b0 : (t258 == 0) = false := beq_eq_false_iff_ne.mpr c13
         have c13b1 : (t258 != 0) = true := bne_iff_ne.mpr c13
         have H' := Aside0.mk H
         clear H
         have p243 : 0 ≤ (x7_1 : Int) := of_decide_eq_true (by first | (with_reducible assumption) | assumption)
         have q243 : x7_1 < (l0.length : Int) := of_decide_eq_true (by first | (with_reducible assumption) | assumption)
         obtain ⟨ad243, e243, hx243_0, hx243_1, hx243_2, hx243_3, hx243_4, hx243_5, hx243_6, hx243_7, hx243_8, hx243_9, hx243_10⟩ := at_T69 HR0.out x7_1 p243 q243
         cases e243
         replace hx243_0 := up_ hx243_0 HB.out
         replace hx243_1 := up_ hx243_1 HB.out
         replace hx243_2 := up_ hx243_2 HB.out
         replace hx243_3 := up_ hx243_3 HB.out
         replace hx243_4 := up_ hx243_4 HB.out
         replace hx243_5 := up_ hx243_5 HB.out
         replace hx243_6 := up_ hx243_6 HB.out
         replace hx243_7 := up_ hx243_7 HB.out
         replace hx243_8 := up_ hx243_8 HB.out
         replace hx243_9 := up_ hx243_9 HB.out
         replace hx243_10 := up_ hx243_10 HB.out
         replace p243 := eq_true p243
         replace q243 := eq_true q243
         go_wp2_with (first | ((with_reducible refine gate_callee (f := 33) rfl ?_); refine goesL_ (some 46) rfl rfl Try.func33 (by kernel_rfl) rfl #[.agg #[.int .i64 ((rd_T69 l0 x7_1).f0), .int .i64 ((rd_T69 l0 x7_1).f1), .int .i64 ((rd_T69 l0 x7_1).f2), .int .i64 ((rd_T69 l0 x7_1).f3), .bool ((rd_T69 l0 x7_1).f4), .int .i64 ((rd_T69 l0 x7_1).f5.f0), .int .i64 ((rd_T69 l0 x7_1).f5.f1), .int .i64 ((rd_T69 l0 x7_1).f5.f2), .int .i64 ((rd_T69 l0 x7_1).f5.f3), .int .i64 ((rd_T69 l0 x7_1).f5.f4), .int .i64 ((rd_T69 l0 x7_1).f5.f5)]] rfl (by (try simp only [List.map_toArray, List.map_cons, List.map_nil]); first | done | rfl | (simp only [List.length_drop, List.length_take]; rfl)) ?_; (with_reducible refine (flyleaflaw15_Op_small.calls ((rd_T69 l0 x7_1).f0) ((rd_T69 l0 x7_1).f1) ((rd_T69 l0 x7_1).f2) ((rd_T69 l0 x7_1).f3) ((rd_T69 l0 x7_1).f4) ((rd_T69 l0 x7_1).f5.f0) ((rd_T69 l0 x7_1).f5.f1) ((rd_T69 l0 x7_1).f5.f2) ((rd_T69 l0 x7_1).f5.f3) ((rd_T69 l0 x7_1).f5.f4) ((rd_T69 l0 x7_1).f5.f5) t244 t245 t246 t247 t248 t249 t250 t251 t252 t253 t254 _ A11.out).mono ?_); rintro e w17 ⟨rfl, hb⟩; refine ⟨_, rfl, ?_⟩; have n0_ := Aside0.mk (Kd.R_below (by (with_reducible repeat (first | apply Kd.R_alloc | apply Kd.R_drewN | apply Kd.R_drew)); exact HO_6.out) hb); have n1_ := Aside0.mk (blk_below (g := gb241) (o := .cells #[.int .i64 a1_0, .int .i64 a1_1, .int .i64 a1_2] 67 (0, 0)) (by (with_reducible repeat (first | refine blk_drewN ?_ _ | refine blk_drew ?_ | refine blk_alloc ?_ _)); exact BK241.out) hb); have n2_ := Aside0.mk (below_step (by repeat (first | (with_reducible first | exact HB.out | apply below_alloc | apply pw_below_drewN | apply below_drew1 | refine below_set ?_ GE241.out) | exact HB.out)) hb); clear HO_6; clear BK241; clear HB; have HO_6 := n0_; have BK241 := n1_; have HB := n2_; clear n0_ n1_ n2_; (try clear hb); (try clear hb2); (try clear hk); (try clear hi); obtain ⟨Ao18, co18, eo18⟩ := Kd.R_slice HO_6.out; subst eo18) | ((with_reducible refine gate_callee (f := 34) rfl ?_); refine goesL_ (some 48) rfl rfl Try.func34 (by kernel_rfl) rfl #[.agg #[.int .i64 t244, .int .i64 t245, .int .i64 t246, .int .i64 t247, .bool t248, .int .i64 t249, .int .i64 t250, .int .i64 t251, .int .i64 t252, .int .i64 t253, .int .i64 t254], .slice Ao18 x6_1.length co18] rfl (by (try simp only [List.map_toArray, List.map_cons, List.map_nil]); first | done | rfl | (simp only [List.length_drop, List.length_take]; rfl)) ?_; (with_reducible refine (flyleaflaw15_Op_of.calls kj5 t244 t245 t246 t247 t248 t249 t250 t251 t252 t253 t254 _ _ x6_1 t255 t258 _ ?side1 ?side2 A12.out).mono ?_); (case side1 => repeat (first | exact (Kd.R_reads' HO_6.out).2.2 | (with_reducible refine Kd.C_alloc ?_ _) | (with_reducible refine Kd.C_drewN ?_ _) | (with_reducible refine Kd.C_drew ?_))); (case side2 => exact (Kd.R_reads' HO_6.out).2.1); rintro e w19 ⟨v256, rfl, ho0, hb⟩; refine ⟨_, rfl, ?_⟩; have n0_ := Aside0.mk (Kd.R_elder' (by (with_reducible repeat (first | apply Kd.R_alloc | apply Kd.R_drewN | apply Kd.R_drew)); exact HO_6.out) (Kd.R_base ho0) hb); have n1_ := Aside0.mk (Kd.R_lower (Kd.R_new' ho0 (Kd.R_lt (by (with_reducible repeat (first | apply Kd.R_alloc | apply Kd.R_drewN | apply Kd.R_drew)); exact HO_6.out))) (below_size (by repeat (first | (with_reducible first | exact HB.out | apply below_alloc | apply pw_below_drewN | apply below_drew1 | refine below_set ?_ GE241.out) | exact HB.out)))); have n2_ := Aside0.mk (blk_below (g := gb241) (o := .cells #[.int .i64 a1_0, .int .i64 a1_1, .int .i64 a1_2] 67 (0, 0)) (by (with_reducible repeat (first | refine blk_drewN ?_ _ | refine blk_drew ?_ | refine blk_alloc ?_ _)); exact BK241.out) hb); have n3_ := Aside0.mk (below_step (by repeat (first | (with_reducible first | exact HB.out | apply below_alloc | apply pw_below_drewN | apply below_drew1 | refine below_set ?_ GE241.out) | exact HB.out)) hb); clear HO_6; clear BK241; clear HB; have HO_6 := n0_; have HO257 := n1_; have BK241 := n2_; have HB := n3_; clear n0_ n1_ n2_ n3_; (try clear hb); (try clear hb2); (try clear hk); (try clear hi); (try clear ho0)))
         go_roundg kj5
         case measure => have := HK1.out; have := HJ5.out; omega
         case rel => exact ⟨(x6_1), (wrap64 (x7_1 + 1)), (by first | rfl | (simp; done) | (simp [*]; done)), H', ⟨by have := HK1.out; have := HJ5.out; omega⟩, ⟨by (with_reducible repeat (first | apply Kd.R_alloc | apply Kd.R_drewN | apply Kd.R_drew)); exact Kd.R_mono HO_6.out (fun _ hk => trivial)⟩, ⟨by (with_reducible repeat (first | refine blk_drewN ?_ _ | refine blk_drew ?_ | refine blk_alloc ?_ _)); exact BK241.out⟩, ⟨by repeat (first | (with_reducible first | exact HB.out | apply below_alloc | apply pw_below_drewN | apply below_drew1 | refine below_set ?_ GE241.out) | exact HB.out)⟩⟩
       rw [if_pos c13] at H
       have c13b0 : (t258 == 0) = true := beq_iff_eq.mpr c13
       have c13b1 : (t258 != 0) = false := bne_eq_false_iff_eq.mpr c13
       clear c13
       have H' := Aside0.mk H
       clear H
       have p243 : 0 ≤ (x7_1 : Int) := of_decide_eq_true (by first | (with_reducible assumption) | assumption)
       have q243 : x7_1 < (l0.length : Int) := of_decide_eq_true (by first | (with_reducible assumption) | assumption)
       obtain ⟨ad243, e243, hx243_0, hx243_1, hx243_2, hx243_3, hx243_4, hx243_5, hx243_6, hx243_7, hx243_8, hx243_9, hx243_10⟩ := at_T69 HR0.out x7_1 p243 q243
       cases e243
       replace hx243_0 := up_ hx243_0 HB.out
       replace hx243_1 := up_ hx243_1 HB.out
       replace hx243_2 := up_ hx243_2 HB.out
       replace hx243_3 := up_ hx243_3 HB.out
       replace hx243_4 := up_ hx243_4 HB.out
       replace hx243_5 := up_ hx243_5 HB.out
       replace hx243_6 := up_ hx243_6 HB.out
       replace hx243_7 := up_ hx243_7 HB.out
       replace hx243_8 := up_ hx243_8 HB.out
       replace hx243_9 := up_ hx243_9 HB.out
       replace hx243_10 := up_ hx243_10 HB.out
       replace p243 := eq_true p243
       replace q243 := eq_true q243
       go_wp2_with (first | ((with_reducible refine gate_callee (f := 33) rfl ?_); refine goesL_ (some 46) rfl rfl Try.func33 (by kernel_rfl) rfl #[.agg #[.int .i64 ((rd_T69 l0 x7_1).f0), .int .i64 ((rd_T69 l0 x7_1).f1), .int .i64 ((rd_T69 l0 x7_1).f2), .int .i64 ((rd_T69 l0 x7_1).f3), .bool ((rd_T69 l0 x7_1).f4), .int .i64 ((rd_T69 l0 x7_1).f5.f0), .int .i64 ((rd_T69 l0 x7_1).f5.f1), .int .i64 ((rd_T69 l0 x7_1).f5.f2), .int .i64 ((rd_T69 l0 x7_1).f5.f3), .int .i64 ((rd_T69 l0 x7_1).f5.f4), .int .i64 ((rd_T69 l0 x7_1).f5.f5)]] rfl (by (try simp only [List.map_toArray, List.map_cons, List.map_nil]); first | done | rfl | (simp only [List.length_drop, List.length_take]; rfl)) ?_; (with_reducible refine (flyleaflaw15_Op_small.calls ((rd_T69 l0 x7_1).f0) ((rd_T69 l0 x7_1).f1) ((rd_T69 l0 x7_1).f2) ((rd_T69 l0 x7_1).f3) ((rd_T69 l0 x7_1).f4) ((rd_T69 l0 x7_1).f5.f0) ((rd_T69 l0 x7_1).f5.f1) ((rd_T69 l0 x7_1).f5.f2) ((rd_T69 l0 x7_1).f5.f3) ((rd_T69 l0 x7_1).f5.f4) ((rd_T69 l0 x7_1).f5.f5) t244 t245 t246 t247 t248 t249 t250 t251 t252 t253 t254 _ A11.out).mono ?_); rintro e w14 ⟨rfl, hb⟩; refine ⟨_, rfl, ?_⟩; have n0_ := Aside0.mk (Kd.R_below (by (with_reducible repeat (first | apply Kd.R_alloc | apply Kd.R_drewN | apply Kd.R_drew)); exact HO_6.out) hb); have n1_ := Aside0.mk (blk_below (g := gb241) (o := .cells #[.int .i64 a1_0, .int .i64 a1_1, .int .i64 a1_2] 67 (0, 0)) (by (with_reducible repeat (first | refine blk_drewN ?_ _ | refine blk_drew ?_ | refine blk_alloc ?_ _)); exact BK241.out) hb); have n2_ := Aside0.mk (below_step (by repeat (first | (with_reducible first | exact HB.out | apply below_alloc | apply pw_below_drewN | apply below_drew1 | refine below_set ?_ GE241.out) | exact HB.out)) hb); clear HO_6; clear BK241; clear HB; have HO_6 := n0_; have BK241 := n1_; have HB := n2_; clear n0_ n1_ n2_; (try clear hb); (try clear hb2); (try clear hk); (try clear hi); obtain ⟨Ao15, co15, eo15⟩ := Kd.R_slice HO_6.out; subst eo15) | ((with_reducible refine gate_callee (f := 34) rfl ?_); refine goesL_ (some 48) rfl rfl Try.func34 (by kernel_rfl) rfl #[.agg #[.int .i64 t244, .int .i64 t245, .int .i64 t246, .int .i64 t247, .bool t248, .int .i64 t249, .int .i64 t250, .int .i64 t251, .int .i64 t252, .int .i64 t253, .int .i64 t254], .slice Ao15 x6_1.length co15] rfl (by (try simp only [List.map_toArray, List.map_cons, List.map_nil]); first | done | rfl | (simp only [List.length_drop, List.length_take]; rfl)) ?_; (with_reducible refine (flyleaflaw15_Op_of.calls kj5 t244 t245 t246 t247 t248 t249 t250 t251 t252 t253 t254 _ _ x6_1 t255 t258 _ ?side1 ?side2 A12.out).mono ?_); (case side1 => repeat (first | exact (Kd.R_reads' HO_6.out).2.2 | (with_reducible refine Kd.C_alloc ?_ _) | (with_reducible refine Kd.C_drewN ?_ _) | (with_reducible refine Kd.C_drew ?_))); (case side2 => exact (Kd.R_reads' HO_6.out).2.1); rintro e w16 ⟨v256, rfl, ho0, hb⟩; refine ⟨_, rfl, ?_⟩; have n0_ := Aside0.mk (Kd.R_elder' (by (with_reducible repeat (first | apply Kd.R_alloc | apply Kd.R_drewN | apply Kd.R_drew)); exact HO_6.out) (Kd.R_base ho0) hb); have n1_ := Aside0.mk (Kd.R_lower (Kd.R_new' ho0 (Kd.R_lt (by (with_reducible repeat (first | apply Kd.R_alloc | apply Kd.R_drewN | apply Kd.R_drew)); exact HO_6.out))) (below_size (by repeat (first | (with_reducible first | exact HB.out | apply below_alloc | apply pw_below_drewN | apply below_drew1 | refine below_set ?_ GE241.out) | exact HB.out)))); have n2_ := Aside0.mk (blk_below (g := gb241) (o := .cells #[.int .i64 a1_0, .int .i64 a1_1, .int .i64 a1_2] 67 (0, 0)) (by (with_reducible repeat (first | refine blk_drewN ?_ _ | refine blk_drew ?_ | refine blk_alloc ?_ _)); exact BK241.out) hb); have n3_ := Aside0.mk (below_step (by repeat (first | (with_reducible first | exact HB.out | apply below_alloc | apply pw_below_drewN | apply below_drew1 | refine below_set ?_ GE241.out) | exact HB.out)) hb); clear HO_6; clear BK241; clear HB; have HO_6 := n0_; have HO257 := n1_; have BK241 := n2_; have HB := n3_; clear n0_ n1_ n2_ n3_; (try clear hb); (try clear hb2); (try clear hk); (try clear hi); (try clear ho0)))
       go_roundg kj5
       case measure => have := HK1.out; have := HJ5.out; omega
       case rel => exact ⟨(t255), (wrap64 (x7_1 + 1)), (by first | rfl | (simp; done) | (simp [*]; done)), H', ⟨by have := HK1.out; have := HJ5.out; omega⟩, ⟨by (with_reducible repeat (first | apply Kd.R_alloc | apply Kd.R_drewN | apply Kd.R_drew)); exact Kd.R_mono HO257.out (fun _ hk => trivial)⟩, ⟨by (with_reducible repeat (first | refine blk_drewN ?_ _ | refine blk_drew ?_ | refine blk_alloc ?_ _)); exact BK241.out⟩, ⟨by repeat (first | (with_reducible first | exact HB.out | apply below_alloc | apply pw_below_drewN | apply below_drew1 | refine below_set ?_ GE241.out) | exact HB.out)⟩⟩
     replace c8 := Bool.eq_false_iff.mpr c8
     subst c8
     have H1 : ((region_Cut.f x6_1 (Go.bits .and .i64 a1_0 63) (Go.bits .and .i64 a1_1 63)).bind fun t259 => ((region_Protect.f x6_1 (Go.bits .and .i64 a1_0 63) (Go.bits .and .i64 a1_1 63) (Go.bits .and .i64 a1_2 7)).bind fun bt262 => (flyleaflaw15_RegionKeeps.l1 kj5 t242 x6_1 (Go.bits .and .i64 a1_0 63) (Go.bits .and .i64 a1_1 63) t259 bt262.1 bt262.2 0 a1_0 a1_1 a1_2))) = some r := by rw [if_neg (show ¬ (false = true) by decide)] at H; exact H
     clear H
     have H := H1
     clear H1
     replace H := Option.bind_eq_some_iff.mp H
     obtain ⟨t259, A200, H⟩ := H
     replace H : ((region_Protect.f x6_1 (Go.bits .and .i64 a1_0 63) (Go.bits .and .i64 a1_1 63) (Go.bits .and .i64 a1_2 7)).bind fun bt262 => (flyleaflaw15_RegionKeeps.l1 kj5 t242 x6_1 (Go.bits .and .i64 a1_0 63) (Go.bits .and .i64 a1_1 63) t259 bt262.1 bt262.2 0 a1_0 a1_1 a1_2)) = some r := H
     have A20 := Aside0.mk A200
     clear A200
     replace H := Option.bind_eq_some_iff.mp H
     obtain ⟨⟨t262, t265⟩, A210, H⟩ := H
     replace H : (flyleaflaw15_RegionKeeps.l1 kj5 t242 x6_1 (Go.bits .and .i64 a1_0 63) (Go.bits .and .i64 a1_1 63) t259 t262 t265 0 a1_0 a1_1 a1_2) = some r := H
     have A21 := Aside0.mk A210
     clear A210
     have H' := Aside0.mk H
     clear H
     have hcz22_0 : wc.cell? ⟨gb241, 0, none⟩ = some (.int .i64 a1_0) := (blk_cell BK241.out 0).trans rfl
     have hcz22_1 : wc.cell? ⟨gb241, 1, none⟩ = some (.int .i64 a1_1) := (blk_cell BK241.out 1).trans rfl
     have hcz22_2 : wc.cell? ⟨gb241, 2, none⟩ = some (.int .i64 a1_2) := (blk_cell BK241.out 2).trans rfl
     have hfz22_0 := blk_frozen BK241.out 0
     have hfz22_1 := blk_frozen BK241.out 1
     have hfz22_2 := blk_frozen BK241.out 2
     obtain ⟨Ao23, co23, eo23⟩ := Kd.R_slice HO_6.out
     subst eo23
     go_wp2_with (first | ((with_reducible refine gate_callee (f := 35) rfl ?_); refine goesL_ (some 63) rfl rfl Try.func35 (by kernel_rfl) rfl #[.slice Ao23 x6_1.length co23, .int .i64 (Go.bits .and .i64 a1_0 63), .int .i64 (Go.bits .and .i64 a1_1 63)] rfl (by (try simp only [List.map_toArray, List.map_cons, List.map_nil]); first | done | rfl | (simp only [List.length_drop, List.length_take]; rfl)) ?_; (with_reducible refine (region_Cut.calls _ _ x6_1 (Go.bits .and .i64 a1_0 63) (Go.bits .and .i64 a1_1 63) t259 _ ?side1 ?side2 A20.out).mono ?_); (case side1 => repeat (first | exact (Kd.R_reads' HO_6.out).2.2 | (with_reducible refine Kd.C_alloc ?_ _) | (with_reducible refine Kd.C_drewN ?_ _) | (with_reducible refine Kd.C_drew ?_))); (case side2 => exact (Kd.R_reads' HO_6.out).2.1); rintro e w24 ⟨v260, rfl, ho0, hb⟩; refine ⟨_, rfl, ?_⟩; have n0_ := Aside0.mk (Kd.R_below (by (with_reducible repeat (first | apply Kd.R_alloc | apply Kd.R_drewN | apply Kd.R_drew)); exact HO_6.out) hb); have n1_ := Aside0.mk (Kd.V_lower (Kd.V_mono (ok' := fun k_ => some k_ ≠ (.slice Ao23 x6_1.length co23 : Value).ownBlock ∧ k_ ≠ gb241) ho0 (fun k_ hk_ => ⟨(Kd.fresh' (Kd.R_lt (by (with_reducible repeat (first | apply Kd.R_alloc | apply Kd.R_drewN | apply Kd.R_drew)); exact HO_6.out)) k_ hk_), (Kd.freshB (g := gb241) (o := .cells #[.int .i64 a1_0, .int .i64 a1_1, .int .i64 a1_2] 67 (0, 0)) (by (with_reducible repeat (first | refine blk_drewN ?_ _ | refine blk_drew ?_ | refine blk_alloc ?_ _)); exact BK241.out) k_ hk_)⟩)) (below_size (by repeat (first | (with_reducible first | exact HB.out | apply below_alloc | apply pw_below_drewN | apply below_drew1 | refine below_set ?_ GE241.out) | exact HB.out)))); have n2_ := Aside0.mk (blk_below (g := gb241) (o := .cells #[.int .i64 a1_0, .int .i64 a1_1, .int .i64 a1_2] 67 (0, 0)) (by (with_reducible repeat (first | refine blk_drewN ?_ _ | refine blk_drew ?_ | refine blk_alloc ?_ _)); exact BK241.out) hb); have n3_ := Aside0.mk (below_step (by repeat (first | (with_reducible first | exact HB.out | apply below_alloc | apply pw_below_drewN | apply below_drew1 | refine below_set ?_ GE241.out) | exact HB.out)) hb); clear HO_6; clear BK241; clear HB; have HO_6 := n0_; have HO261 := n1_; have BK241 := n2_; have HB := n3_; clear n0_ n1_ n2_ n3_; (try clear hb); (try clear hb2); (try clear hk); (try clear hi); (try clear ho0); have hcz25_0 : w24.cell? ⟨gb241, 0, none⟩ = some (.int .i64 a1_0) := (blk_cell BK241.out 0).trans rfl; have hcz25_1 : w24.cell? ⟨gb241, 1, none⟩ = some (.int .i64 a1_1) := (blk_cell BK241.out 1).trans rfl; have hcz25_2 : w24.cell? ⟨gb241, 2, none⟩ = some (.int .i64 a1_2) := (blk_cell BK241.out 2).trans rfl; have hfz25_0 := blk_frozen BK241.out 0; have hfz25_1 := blk_frozen BK241.out 1; have hfz25_2 := blk_frozen BK241.out 2) | ((with_reducible refine gate_callee (f := 36) rfl ?_); refine goesL_ (some 71) rfl rfl Try.func36 (by kernel_rfl) rfl #[.slice Ao23 x6_1.length co23, .int .i64 (Go.bits .and .i64 a1_0 63), .int .i64 (Go.bits .and .i64 a1_1 63), .int .i64 (Go.bits .and .i64 a1_2 7)] rfl (by (try simp only [List.map_toArray, List.map_cons, List.map_nil]); first | done | rfl | (simp only [List.length_drop, List.length_take]; rfl)) ?_; (with_reducible refine (region_Protect.calls _ _ x6_1 (Go.bits .and .i64 a1_0 63) (Go.bits .and .i64 a1_1 63) (Go.bits .and .i64 a1_2 7) t262 t265 _ ?side1 ?side2 A21.out).mono ?_); (case side1 => repeat (first | exact (Kd.R_reads' HO_6.out).2.2 | (with_reducible refine Kd.C_alloc ?_ _) | (with_reducible refine Kd.C_drewN ?_ _) | (with_reducible refine Kd.C_drew ?_))); (case side2 => exact (Kd.R_reads' HO_6.out).2.1); rintro e w26 ⟨v263, rfl, ho0, hb⟩; refine ⟨_, rfl, ?_⟩; have n0_ := Aside0.mk (Kd.R_below (by (with_reducible repeat (first | apply Kd.R_alloc | apply Kd.R_drewN | apply Kd.R_drew)); exact HO_6.out) hb); have n1_ := Aside0.mk (Kd.V_below (by (with_reducible repeat (first | apply Kd.V_alloc | apply Kd.V_drewN | apply Kd.V_drew)); exact HO261.out) hb); have n2_ := Aside0.mk (Kd.V_lower (Kd.V_mono (ok' := fun k_ => some k_ ≠ (.slice Ao23 x6_1.length co23 : Value).ownBlock ∧ k_ ≠ gb241) ho0 (fun k_ hk_ => ⟨(Kd.fresh' (Kd.R_lt (by (with_reducible repeat (first | apply Kd.R_alloc | apply Kd.R_drewN | apply Kd.R_drew)); exact HO_6.out)) k_ hk_), (Kd.freshB (g := gb241) (o := .cells #[.int .i64 a1_0, .int .i64 a1_1, .int .i64 a1_2] 67 (0, 0)) (by (with_reducible repeat (first | refine blk_drewN ?_ _ | refine blk_drew ?_ | refine blk_alloc ?_ _)); exact BK241.out) k_ hk_)⟩)) (below_size (by repeat (first | (with_reducible first | exact HB.out | apply below_alloc | apply pw_below_drewN | apply below_drew1 | refine below_set ?_ GE241.out) | exact HB.out)))); have n3_ := Aside0.mk (blk_below (g := gb241) (o := .cells #[.int .i64 a1_0, .int .i64 a1_1, .int .i64 a1_2] 67 (0, 0)) (by (with_reducible repeat (first | refine blk_drewN ?_ _ | refine blk_drew ?_ | refine blk_alloc ?_ _)); exact BK241.out) hb); have n4_ := Aside0.mk (below_step (by repeat (first | (with_reducible first | exact HB.out | apply below_alloc | apply pw_below_drewN | apply below_drew1 | refine below_set ?_ GE241.out) | exact HB.out)) hb); clear HO_6; clear HO261; clear BK241; clear HB; have HO_6 := n0_; have HO261 := n1_; have HO264 := n2_; have BK241 := n3_; have HB := n4_; clear n0_ n1_ n2_ n3_ n4_; (try clear hb); (try clear hb2); (try clear hk); (try clear hi); (try clear ho0)))
     go_loopg [15] kj5 (fun kq v15 w' => ∃ (x15_3 : Int), v15 = .int .i64 x15_3 ∧ Aside0 (flyleaflaw15_RegionKeeps.l1 kq t242 x6_1 (Go.bits .and .i64 a1_0 63) (Go.bits .and .i64 a1_1 63) t259 t262 t265 x15_3 a1_0 a1_1 a1_2 = some r) ∧ Aside0 (kq ≤ kj5) ∧ Aside0 (Kd.R k41 41 w' w.heap.size (fun _ => True) (.slice Ao23 x6_1.length co23) x6_1) ∧ Aside0 (Kd.V k41 41 w' w.heap.size (fun k_ => some k_ ≠ ((.slice Ao23 x6_1.length co23) : Value).ownBlock ∧ k_ ≠ gb241) v260 t259) ∧ Aside0 (Kd.V k41 41 w' w.heap.size (fun k_ => some k_ ≠ ((.slice Ao23 x6_1.length co23) : Value).ownBlock ∧ k_ ≠ gb241) v263 t262) ∧ Aside0 (w'.heap[gb241]? = some (.cells #[.int .i64 a1_0, .int .i64 a1_1, .int .i64 a1_2] 67 (0, 0))) ∧ Aside0 (Below w.heap.size w w'))
     case atStart => exact ⟨(0), (by first | rfl | (simp; done) | (simp [*]; done)), H', ⟨Nat.le_refl _⟩, ⟨by (with_reducible repeat (first | apply Kd.R_alloc | apply Kd.R_drewN | apply Kd.R_drew)); exact HO_6.out⟩, ⟨by (with_reducible repeat (first | apply Kd.V_alloc | apply Kd.V_drewN | apply Kd.V_drew)); exact HO261.out⟩, ⟨by (with_reducible repeat (first | apply Kd.V_alloc | apply Kd.V_drewN | apply Kd.V_drew)); exact HO264.out⟩, ⟨by (with_reducible repeat (first | refine blk_drewN ?_ _ | refine blk_drew ?_ | refine blk_alloc ?_ _)); exact BK241.out⟩, ⟨by repeat (first | (with_reducible first | exact HB.out | apply below_alloc | apply pw_below_drewN | apply below_drew1 | refine below_set ?_ GE241.out) | exact HB.out)⟩⟩
     case round =>
      clear H'
      try clear c1
      try clear c2
      try clear p2
      try clear q2
      try clear hx2
      try clear c3
      try clear p6
      try clear c7
      try clear c7b0
      try clear c8
      try clear c9
      try clear c9b0
      try clear c10
      try clear c10b0
      try clear c13
      try clear c13b0
      try clear c13b1
      try clear c23
      try clear p24
      try clear q24
      try clear hx24
      try clear hcz22_0
      try clear hcz22_1
      try clear hcz22_2
      try clear hcz25_0
      try clear hcz25_1
      try clear hcz25_2
      try clear hfz22_0
      try clear hfz22_1
      try clear hfz22_2
      try clear hfz25_0
      try clear hfz25_1
      try clear hfz25_2
      try clear hx243_0
      try clear hx243_1
      try clear hx243_10
      try clear hx243_2
      try clear hx243_3
      try clear hx243_4
      try clear hx243_5
      try clear hx243_6
      try clear hx243_7
      try clear hx243_8
      try clear hx243_9
      try clear p2
      try clear p243
      try clear q243
      obtain ⟨x15_3, rfl, HA, HK3, HO_6, HO_12, HO_13, BK241, HB⟩ := hrel
      cases gk with
      | zero => exact absurd HA.out (by simp [flyleaflaw15_RegionKeeps.l1])
      | succ k3 =>
       have H := HA.out
       clear HA
       simp only [flyleaflaw15_RegionKeeps.l1] at H
       by_cases c27 : x15_3 < 70
       rotate_left
       · rw [if_neg c27] at H
         have c27b0 : decide (x15_3 < 70) = false := decide_eq_false c27
         clear c27
         by_cases c355 : t242 = true
         rotate_left
         · replace c355 := Bool.eq_false_iff.mpr c355
           subst c355
           have H1 : (some false) = some r := by rw [if_neg (show ¬ (false = true) by decide)] at H; exact H
           clear H
           have H := H1
           clear H1
           obtain rfl := Option.some.inj H
           go_wp2
           go_ret
           exact ⟨by first | rfl | (simp [errW_none, errW_some] <;> rfl) | (simp [*, errW_none, errW_some] <;> rfl), by repeat (first | (with_reducible first | exact HB.out | apply below_alloc | apply pw_below_drewN | apply below_drew1 | refine below_set ?_ GE241.out) | exact HB.out)⟩
         subst c355
         have H1 : (if (Go.bits .and .i64 a1_0 63) < (Go.bits .and .i64 a1_1 63) then ((region_Covers.f k3 x6_1 (Go.bits .and .i64 a1_0 63) (Go.bits .and .i64 a1_1 63)).bind fun t266 => (some ((t265 == 0) == t266))) else (some ((t265 == 0) == false))) = some r := by rw [if_pos rfl] at H; exact H
         clear H
         have H := H1
         clear H1
         by_cases c356 : (Go.bits .and .i64 a1_0 63) < (Go.bits .and .i64 a1_1 63)
         rotate_left
         · rw [if_neg c356] at H
           have c356b0 : decide ((Go.bits .and .i64 a1_0 63) < (Go.bits .and .i64 a1_1 63)) = false := decide_eq_false c356
           clear c356
           obtain rfl := Option.some.inj H
           go_wp2
           go_ret
           exact ⟨by first | rfl | (simp [errW_none, errW_some] <;> rfl) | (simp [*, errW_none, errW_some] <;> rfl), by repeat (first | (with_reducible first | exact HB.out | apply below_alloc | apply pw_below_drewN | apply below_drew1 | refine below_set ?_ GE241.out) | exact HB.out)⟩
         rw [if_pos c356] at H
         have c356b0 : decide ((Go.bits .and .i64 a1_0 63) < (Go.bits .and .i64 a1_1 63)) = true := decide_eq_true c356
         clear c356
         replace H := Option.bind_eq_some_iff.mp H
         obtain ⟨t266, A3570, H⟩ := H
         replace H : (some ((t265 == 0) == t266)) = some r := H
         have A357 := Aside0.mk A3570
         clear A3570
         obtain rfl := Option.some.inj H
         go_wp2_with (first | (go_at_call 39; (with_reducible refine (region_Covers.calls k3 _ _ x6_1 (Go.bits .and .i64 a1_0 63) (Go.bits .and .i64 a1_1 63) t266 _ ?side1 ?side2 A357.out).mono ?_); (case side1 => repeat (first | exact (Kd.R_reads' HO_6.out).2.2 | (with_reducible refine Kd.C_alloc ?_ _) | (with_reducible refine Kd.C_drewN ?_ _) | (with_reducible refine Kd.C_drew ?_))); (case side2 => exact (Kd.R_reads' HO_6.out).2.1); rintro e w358 ⟨rfl, hb⟩; have n0_ := Aside0.mk (Kd.R_below (by (with_reducible repeat (first | apply Kd.R_alloc | apply Kd.R_drewN | apply Kd.R_drew)); exact HO_6.out) hb); have n1_ := Aside0.mk (Kd.V_below (by (with_reducible repeat (first | apply Kd.V_alloc | apply Kd.V_drewN | apply Kd.V_drew)); exact HO_12.out) hb); have n2_ := Aside0.mk (Kd.V_below (by (with_reducible repeat (first | apply Kd.V_alloc | apply Kd.V_drewN | apply Kd.V_drew)); exact HO_13.out) hb); have n3_ := Aside0.mk (blk_below (g := gb241) (o := .cells #[.int .i64 a1_0, .int .i64 a1_1, .int .i64 a1_2] 67 (0, 0)) (by (with_reducible repeat (first | refine blk_drewN ?_ _ | refine blk_drew ?_ | refine blk_alloc ?_ _)); exact BK241.out) hb); have n4_ := Aside0.mk (below_step (by repeat (first | (with_reducible first | exact HB.out | apply below_alloc | apply pw_below_drewN | apply below_drew1 | refine below_set ?_ GE241.out) | exact HB.out)) hb); clear HO_6; clear HO_12; clear HO_13; clear BK241; clear HB; have HO_6 := n0_; have HO_12 := n1_; have HO_13 := n2_; have BK241 := n3_; have HB := n4_; clear n0_ n1_ n2_ n3_ n4_; (try clear hb); (try clear hb2); (try clear hk); (try clear hi)))
         go_ret
         exact ⟨by first | rfl | (simp [errW_none, errW_some] <;> rfl) | (simp [*, errW_none, errW_some] <;> rfl), by repeat (first | (with_reducible first | exact HB.out | apply below_alloc | apply pw_below_drewN | apply below_drew1 | refine below_set ?_ GE241.out) | exact HB.out)⟩
       rw [if_pos c27] at H
       have c27b0 : decide (x15_3 < 70) = true := decide_eq_true c27
       clear c27
       replace H := Option.bind_eq_some_iff.mp H
       obtain ⟨⟨t267, t268, t269, t270, t271, t272, t273⟩, A280, H⟩ := H
       replace H : ((region_Find.f k3 t259 x15_3).bind fun bt275 => (if x15_3 ≥ (Go.bits .and .i64 a1_0 63) then (flyleaflaw15_RegionKeeps.j3 k3 t242 x6_1 (Go.bits .and .i64 a1_0 63) (Go.bits .and .i64 a1_1 63) t259 t262 t265 x15_3 t273 bt275.2.2.2.2.2.2 (decide (x15_3 < (Go.bits .and .i64 a1_1 63))) a1_0 a1_1 a1_2 t267 t268 t269 t270 t271 t272 bt275.1 bt275.2.1 bt275.2.2.1 bt275.2.2.2.1 bt275.2.2.2.2.1 bt275.2.2.2.2.2.1) else (flyleaflaw15_RegionKeeps.j3 k3 t242 x6_1 (Go.bits .and .i64 a1_0 63) (Go.bits .and .i64 a1_1 63) t259 t262 t265 x15_3 t273 bt275.2.2.2.2.2.2 false a1_0 a1_1 a1_2 t267 t268 t269 t270 t271 t272 bt275.1 bt275.2.1 bt275.2.2.1 bt275.2.2.2.1 bt275.2.2.2.2.1 bt275.2.2.2.2.2.1))) = some r := H
       have A28 := Aside0.mk A280
       clear A280
       replace H := Option.bind_eq_some_iff.mp H
       obtain ⟨⟨t275, t276, t277, t278, t279, t280, t281⟩, A290, H⟩ := H
       replace H : (if x15_3 ≥ (Go.bits .and .i64 a1_0 63) then (flyleaflaw15_RegionKeeps.j3 k3 t242 x6_1 (Go.bits .and .i64 a1_0 63) (Go.bits .and .i64 a1_1 63) t259 t262 t265 x15_3 t273 t281 (decide (x15_3 < (Go.bits .and .i64 a1_1 63))) a1_0 a1_1 a1_2 t267 t268 t269 t270 t271 t272 t275 t276 t277 t278 t279 t280) else (flyleaflaw15_RegionKeeps.j3 k3 t242 x6_1 (Go.bits .and .i64 a1_0 63) (Go.bits .and .i64 a1_1 63) t259 t262 t265 x15_3 t273 t281 false a1_0 a1_1 a1_2 t267 t268 t269 t270 t271 t272 t275 t276 t277 t278 t279 t280)) = some r := H
       have A29 := Aside0.mk A290
       clear A290
       have HC30 := Aside0.mk H
       clear H
       go_upto_region 18 with (first | ((with_reducible refine gate_callee (f := 37) rfl ?_); refine goesL_ (some 81) rfl rfl Try.func37 (by kernel_rfl) rfl #[.slice Ao23 x6_1.length co23, .int .i64 x15_3] rfl (by (try simp only [List.map_toArray, List.map_cons, List.map_nil]); first | done | rfl | (simp only [List.length_drop, List.length_take]; rfl)) ?_; (with_reducible refine (region_Find.calls k3 _ _ x6_1 x15_3 t267 t268 t269 t270 t271 t272 t273 _ ?side1 ?side2 A28.out).mono ?_); (case side1 => repeat (first | exact (Kd.R_reads' HO_6.out).2.2 | (with_reducible refine Kd.C_alloc ?_ _) | (with_reducible refine Kd.C_drewN ?_ _) | (with_reducible refine Kd.C_drew ?_))); (case side2 => exact (Kd.R_reads' HO_6.out).2.1); rintro e w31 ⟨rfl, hb⟩; refine ⟨_, rfl, ?_⟩; have n0_ := Aside0.mk (Kd.R_below (by (with_reducible repeat (first | apply Kd.R_alloc | apply Kd.R_drewN | apply Kd.R_drew)); exact HO_6.out) hb); have n1_ := Aside0.mk (Kd.V_below (by (with_reducible repeat (first | apply Kd.V_alloc | apply Kd.V_drewN | apply Kd.V_drew)); exact HO_12.out) hb); have n2_ := Aside0.mk (Kd.V_below (by (with_reducible repeat (first | apply Kd.V_alloc | apply Kd.V_drewN | apply Kd.V_drew)); exact HO_13.out) hb); have n3_ := Aside0.mk (blk_below (g := gb241) (o := .cells #[.int .i64 a1_0, .int .i64 a1_1, .int .i64 a1_2] 67 (0, 0)) (by (with_reducible repeat (first | refine blk_drewN ?_ _ | refine blk_drew ?_ | refine blk_alloc ?_ _)); exact BK241.out) hb); have n4_ := Aside0.mk (below_step (by repeat (first | (with_reducible first | exact HB.out | apply below_alloc | apply pw_below_drewN | apply below_drew1 | refine below_set ?_ GE241.out) | exact HB.out)) hb); clear HO_6; clear HO_12; clear HO_13; clear BK241; clear HB; have HO_6 := n0_; have HO_12 := n1_; have HO_13 := n2_; have BK241 := n3_; have HB := n4_; clear n0_ n1_ n2_ n3_ n4_; (try clear hb); (try clear hb2); (try clear hk); (try clear hi)) | ((with_reducible refine gate_dst (N := 16) rfl ?_); refine box_event ?hg (N := 16) ?hd (cs := #[.int .i64 0, .int .i64 0, .int .i64 0, .int .i64 0, .int .i64 0, .int .i64 0]) (t := 41) ?hr ?_; (case hd => rfl); (case hg => rfl); (case hr => first | (go_simp; done) | (go_simp; rfl)); intro gb274 hg w32 hbox hb; have n0_ := Aside0.mk (Kd.R_below (Kd.R_elderB (by (with_reducible repeat (first | apply Kd.R_alloc | apply Kd.R_drewN | apply Kd.R_drew)); exact HO_6.out) gb274 (Nat.le_of_eq hg.symm)) hb); have n1_ := Aside0.mk (Kd.V_below (Kd.V_elderB (by (with_reducible repeat (first | apply Kd.V_alloc | apply Kd.V_drewN | apply Kd.V_drew)); exact HO_12.out) gb274 (Nat.le_of_eq hg.symm)) hb); have n2_ := Aside0.mk (Kd.V_below (Kd.V_elderB (by (with_reducible repeat (first | apply Kd.V_alloc | apply Kd.V_drewN | apply Kd.V_drew)); exact HO_13.out) gb274 (Nat.le_of_eq hg.symm)) hb); have n3_ := Aside0.mk (blk_below (g := gb241) (o := .cells #[.int .i64 a1_0, .int .i64 a1_1, .int .i64 a1_2] 67 (0, 0)) (by (with_reducible repeat (first | refine blk_drewN ?_ _ | refine blk_drew ?_ | refine blk_alloc ?_ _)); exact BK241.out) hb); have n4_ := Aside0.mk (below_step (by repeat (first | (with_reducible first | exact HB.out | apply below_alloc | apply pw_below_drewN | apply below_drew1 | refine below_set ?_ GE241.out) | exact HB.out)) hb); have n5_ := Aside0.mk (hbox); have n6_ := Aside0.mk ((by rw [hg]; exact (below_size (by repeat (first | (with_reducible first | exact HB.out | apply below_alloc | apply pw_below_drewN | apply below_drew1 | refine below_set ?_ GE241.out) | exact HB.out))) : w.heap.size ≤ gb274)); have n7_ := Aside0.mk ((by rw [hg]; exact (below_size (by repeat (first | (with_reducible first | exact HB.out | apply below_alloc | apply pw_below_drewN | apply below_drew1 | refine below_set ?_ GE241.out) | exact HB.out))) : w.heap.size ≤ gb274)); have n8_ := Aside0.mk ((by rw [hg]; exact Nat.ne_of_lt (blk_lt (g := gb241) (o := .cells #[.int .i64 a1_0, .int .i64 a1_1, .int .i64 a1_2] 67 (0, 0)) (by (with_reducible repeat (first | refine blk_drewN ?_ _ | refine blk_drew ?_ | refine blk_alloc ?_ _)); exact BK241.out)) : gb241 ≠ gb274)); have n9_ := Aside0.mk ((by rw [hg]; exact Nat.ne_of_gt (blk_lt (g := gb241) (o := .cells #[.int .i64 a1_0, .int .i64 a1_1, .int .i64 a1_2] 67 (0, 0)) (by (with_reducible repeat (first | refine blk_drewN ?_ _ | refine blk_drew ?_ | refine blk_alloc ?_ _)); exact BK241.out)) : gb274 ≠ gb241)); clear HO_6; clear HO_12; clear HO_13; clear BK241; clear HB; have HO_6 := n0_; have HO_12 := n1_; have HO_13 := n2_; have BK241 := n3_; have HB := n4_; have BK274 := n5_; have GW274 := n6_; have GE274 := n7_; have NB241_274 := n8_; have NB274_241 := n9_; clear n0_ n1_ n2_ n3_ n4_ n5_ n6_ n7_ n8_ n9_; clear hb hbox hg; have hnb33 := NB274_241.out; have hnc33 := NB241_274.out; have hcz34_0 : w32.cell? ⟨gb274, 0, none⟩ = some (.int .i64 0) := (blk_cell BK274.out 0).trans rfl; have hcz34_1 : w32.cell? ⟨gb274, 1, none⟩ = some (.int .i64 0) := (blk_cell BK274.out 1).trans rfl; have hcz34_2 : w32.cell? ⟨gb274, 2, none⟩ = some (.int .i64 0) := (blk_cell BK274.out 2).trans rfl; have hcz34_3 : w32.cell? ⟨gb274, 3, none⟩ = some (.int .i64 0) := (blk_cell BK274.out 3).trans rfl; have hcz34_4 : w32.cell? ⟨gb274, 4, none⟩ = some (.int .i64 0) := (blk_cell BK274.out 4).trans rfl; have hcz34_5 : w32.cell? ⟨gb274, 5, none⟩ = some (.int .i64 0) := (blk_cell BK274.out 5).trans rfl; have hfz34_0 := blk_frozen BK274.out 0; have hfz34_1 := blk_frozen BK274.out 1; have hfz34_2 := blk_frozen BK274.out 2; have hfz34_3 := blk_frozen BK274.out 3; have hfz34_4 := blk_frozen BK274.out 4; have hfz34_5 := blk_frozen BK274.out 5; obtain ⟨Ao35, co35, eo35⟩ := Kd.V_slice HO_12.out; subst eo35) | ((with_reducible refine gate_callee (f := 37) rfl ?_); refine goesL_ (some 87) rfl rfl Try.func37 (by kernel_rfl) rfl #[.slice Ao35 t259.length co35, .int .i64 x15_3] rfl (by (try simp only [List.map_toArray, List.map_cons, List.map_nil]); first | done | rfl | (simp only [List.length_drop, List.length_take]; rfl)) ?_; (with_reducible refine (region_Find.calls k3 _ _ t259 x15_3 t275 t276 t277 t278 t279 t280 t281 _ ?side1 ?side2 A29.out).mono ?_); (case side1 => refine (Kd.V_reads' (e := 41) (base := w.heap.size) (ok := fun k_ => ((some k_ ≠ (.slice Ao23 x6_1.length co23 : Value).ownBlock ∧ k_ ≠ gb241) ∧ k_ ≠ gb274)) (n := t259.length) (c := co35) ?_).2.2; exact (by (with_reducible repeat (first | apply Kd.V_alloc | apply Kd.V_drewN | apply Kd.V_drew)); exact (Kd.V_mono (Kd.V_far (p := ⟨gb274, 5, none⟩) (Kd.V_far (p := ⟨gb274, 4, none⟩) (Kd.V_far (p := ⟨gb274, 3, none⟩) (Kd.V_far (p := ⟨gb274, 2, none⟩) (Kd.V_far (p := ⟨gb274, 1, none⟩) (Kd.V_far (p := ⟨gb274, 0, none⟩) (Kd.V_mono HO_12.out (fun k_ hk => (⟨hk, hk.2⟩ : _ ∧ k_ ≠ gb274))) (fun _ hk => hk.2) (.int .i64 t267)) (fun _ hk => hk.2) (.int .i64 t268)) (fun _ hk => hk.2) (.int .i64 t269)) (fun _ hk => hk.2) (.int .i64 t270)) (fun _ hk => hk.2) (.int .i64 t271)) (fun _ hk => hk.2) (.int .i64 t272)) (fun _ h_ => h_.1)))); (case side2 => exact (Kd.V_reads' HO_12.out).2.1); rintro e w36 ⟨rfl, hb⟩; refine ⟨_, rfl, ?_⟩; have n0_ := Aside0.mk (Kd.R_below (by (with_reducible repeat (first | apply Kd.R_alloc | apply Kd.R_drewN | apply Kd.R_drew)); exact (Kd.R_mono (Kd.R_far (p := ⟨gb274, 5, none⟩) (Kd.R_far (p := ⟨gb274, 4, none⟩) (Kd.R_far (p := ⟨gb274, 3, none⟩) (Kd.R_far (p := ⟨gb274, 2, none⟩) (Kd.R_far (p := ⟨gb274, 1, none⟩) (Kd.R_far (p := ⟨gb274, 0, none⟩) (Kd.R_mono HO_6.out (fun k_ hk => (⟨hk, hk.2⟩ : _ ∧ k_ ≠ gb274))) (fun _ hk => hk.2) (.int .i64 t267)) (fun _ hk => hk.2) (.int .i64 t268)) (fun _ hk => hk.2) (.int .i64 t269)) (fun _ hk => hk.2) (.int .i64 t270)) (fun _ hk => hk.2) (.int .i64 t271)) (fun _ hk => hk.2) (.int .i64 t272)) (fun _ h_ => h_.1))) hb); have n1_ := Aside0.mk (Kd.V_below (by (with_reducible repeat (first | apply Kd.V_alloc | apply Kd.V_drewN | apply Kd.V_drew)); exact (Kd.V_mono (Kd.V_far (p := ⟨gb274, 5, none⟩) (Kd.V_far (p := ⟨gb274, 4, none⟩) (Kd.V_far (p := ⟨gb274, 3, none⟩) (Kd.V_far (p := ⟨gb274, 2, none⟩) (Kd.V_far (p := ⟨gb274, 1, none⟩) (Kd.V_far (p := ⟨gb274, 0, none⟩) (Kd.V_mono HO_12.out (fun k_ hk => (⟨hk, hk.2⟩ : _ ∧ k_ ≠ gb274))) (fun _ hk => hk.2) (.int .i64 t267)) (fun _ hk => hk.2) (.int .i64 t268)) (fun _ hk => hk.2) (.int .i64 t269)) (fun _ hk => hk.2) (.int .i64 t270)) (fun _ hk => hk.2) (.int .i64 t271)) (fun _ hk => hk.2) (.int .i64 t272)) (fun _ h_ => h_.1))) hb); have n2_ := Aside0.mk (Kd.V_below (by (with_reducible repeat (first | apply Kd.V_alloc | apply Kd.V_drewN | apply Kd.V_drew)); exact (Kd.V_mono (Kd.V_far (p := ⟨gb274, 5, none⟩) (Kd.V_far (p := ⟨gb274, 4, none⟩) (Kd.V_far (p := ⟨gb274, 3, none⟩) (Kd.V_far (p := ⟨gb274, 2, none⟩) (Kd.V_far (p := ⟨gb274, 1, none⟩) (Kd.V_far (p := ⟨gb274, 0, none⟩) (Kd.V_mono HO_13.out (fun k_ hk => (⟨hk, hk.2⟩ : _ ∧ k_ ≠ gb274))) (fun _ hk => hk.2) (.int .i64 t267)) (fun _ hk => hk.2) (.int .i64 t268)) (fun _ hk => hk.2) (.int .i64 t269)) (fun _ hk => hk.2) (.int .i64 t270)) (fun _ hk => hk.2) (.int .i64 t271)) (fun _ hk => hk.2) (.int .i64 t272)) (fun _ h_ => h_.1))) hb); have n3_ := Aside0.mk (blk_below (g := gb241) (o := .cells #[.int .i64 a1_0, .int .i64 a1_1, .int .i64 a1_2] 67 (0, 0)) (by (with_reducible repeat (first | refine blk_drewN ?_ _ | refine blk_drew ?_ | refine blk_alloc ?_ _)); refine blk_far ?_ NB241_274.out _; (with_reducible repeat (first | refine blk_drewN ?_ _ | refine blk_drew ?_ | refine blk_alloc ?_ _)); refine blk_far ?_ NB241_274.out _; (with_reducible repeat (first | refine blk_drewN ?_ _ | refine blk_drew ?_ | refine blk_alloc ?_ _)); refine blk_far ?_ NB241_274.out _; (with_reducible repeat (first | refine blk_drewN ?_ _ | refine blk_drew ?_ | refine blk_alloc ?_ _)); refine blk_far ?_ NB241_274.out _; (with_reducible repeat (first | refine blk_drewN ?_ _ | refine blk_drew ?_ | refine blk_alloc ?_ _)); refine blk_far ?_ NB241_274.out _; (with_reducible repeat (first | refine blk_drewN ?_ _ | refine blk_drew ?_ | refine blk_alloc ?_ _)); refine blk_far ?_ NB241_274.out _; (with_reducible repeat (first | refine blk_drewN ?_ _ | refine blk_drew ?_ | refine blk_alloc ?_ _)); exact BK241.out) hb); have n4_ := Aside0.mk (blk_below (g := gb274) (o := .cells #[.int .i64 t267, .int .i64 t268, .int .i64 t269, .int .i64 t270, .int .i64 t271, .int .i64 t272] 41 (0, 0)) (by (with_reducible repeat (first | refine blk_drewN ?_ _ | refine blk_drew ?_ | refine blk_alloc ?_ _)); refine blk_put (cs := #[.int .i64 t267, .int .i64 t268, .int .i64 t269, .int .i64 t270, .int .i64 t271, .int .i64 0]) ?_ 5 _ rfl; (with_reducible repeat (first | refine blk_drewN ?_ _ | refine blk_drew ?_ | refine blk_alloc ?_ _)); refine blk_put (cs := #[.int .i64 t267, .int .i64 t268, .int .i64 t269, .int .i64 t270, .int .i64 0, .int .i64 0]) ?_ 4 _ rfl; (with_reducible repeat (first | refine blk_drewN ?_ _ | refine blk_drew ?_ | refine blk_alloc ?_ _)); refine blk_put (cs := #[.int .i64 t267, .int .i64 t268, .int .i64 t269, .int .i64 0, .int .i64 0, .int .i64 0]) ?_ 3 _ rfl; (with_reducible repeat (first | refine blk_drewN ?_ _ | refine blk_drew ?_ | refine blk_alloc ?_ _)); refine blk_put (cs := #[.int .i64 t267, .int .i64 t268, .int .i64 0, .int .i64 0, .int .i64 0, .int .i64 0]) ?_ 2 _ rfl; (with_reducible repeat (first | refine blk_drewN ?_ _ | refine blk_drew ?_ | refine blk_alloc ?_ _)); refine blk_put (cs := #[.int .i64 t267, .int .i64 0, .int .i64 0, .int .i64 0, .int .i64 0, .int .i64 0]) ?_ 1 _ rfl; (with_reducible repeat (first | refine blk_drewN ?_ _ | refine blk_drew ?_ | refine blk_alloc ?_ _)); refine blk_put (cs := #[.int .i64 0, .int .i64 0, .int .i64 0, .int .i64 0, .int .i64 0, .int .i64 0]) ?_ 0 _ rfl; (with_reducible repeat (first | refine blk_drewN ?_ _ | refine blk_drew ?_ | refine blk_alloc ?_ _)); exact BK274.out) hb); have n5_ := Aside0.mk (below_step (by repeat (first | (with_reducible first | exact HB.out | apply below_alloc | apply pw_below_drewN | apply below_drew1 | refine below_set ?_ GE241.out | refine below_set ?_ GE274.out) | exact HB.out)) hb); clear HO_6; clear HO_12; clear HO_13; clear BK241; clear BK274; clear HB; have HO_6 := n0_; have HO_12 := n1_; have HO_13 := n2_; have BK241 := n3_; have BK274 := n4_; have HB := n5_; clear n0_ n1_ n2_ n3_ n4_ n5_; (try clear hb); (try clear hb2); (try clear hk); (try clear hi)) | ((with_reducible refine gate_dst (N := 18) rfl ?_); refine box_event ?hg (N := 18) ?hd (cs := #[.int .i64 0, .int .i64 0, .int .i64 0, .int .i64 0, .int .i64 0, .int .i64 0]) (t := 41) ?hr ?_; (case hd => rfl); (case hg => rfl); (case hr => first | (go_simp; done) | (go_simp; rfl)); intro gb282 hg w37 hbox hb; have n0_ := Aside0.mk (Kd.R_below (Kd.R_elderB (by (with_reducible repeat (first | apply Kd.R_alloc | apply Kd.R_drewN | apply Kd.R_drew)); exact HO_6.out) gb282 (Nat.le_of_eq hg.symm)) hb); have n1_ := Aside0.mk (Kd.V_below (Kd.V_elderB (by (with_reducible repeat (first | apply Kd.V_alloc | apply Kd.V_drewN | apply Kd.V_drew)); exact HO_12.out) gb282 (Nat.le_of_eq hg.symm)) hb); have n2_ := Aside0.mk (Kd.V_below (Kd.V_elderB (by (with_reducible repeat (first | apply Kd.V_alloc | apply Kd.V_drewN | apply Kd.V_drew)); exact HO_13.out) gb282 (Nat.le_of_eq hg.symm)) hb); have n3_ := Aside0.mk (blk_below (g := gb241) (o := .cells #[.int .i64 a1_0, .int .i64 a1_1, .int .i64 a1_2] 67 (0, 0)) (by (with_reducible repeat (first | refine blk_drewN ?_ _ | refine blk_drew ?_ | refine blk_alloc ?_ _)); exact BK241.out) hb); have n4_ := Aside0.mk (blk_below (g := gb274) (o := .cells #[.int .i64 t267, .int .i64 t268, .int .i64 t269, .int .i64 t270, .int .i64 t271, .int .i64 t272] 41 (0, 0)) (by (with_reducible repeat (first | refine blk_drewN ?_ _ | refine blk_drew ?_ | refine blk_alloc ?_ _)); exact BK274.out) hb); have n5_ := Aside0.mk (below_step (by repeat (first | (with_reducible first | exact HB.out | apply below_alloc | apply pw_below_drewN | apply below_drew1 | refine below_set ?_ GE241.out | refine below_set ?_ GE274.out) | exact HB.out)) hb); have n6_ := Aside0.mk (hbox); have n7_ := Aside0.mk ((by rw [hg]; exact (below_size (by repeat (first | (with_reducible first | exact HB.out | apply below_alloc | apply pw_below_drewN | apply below_drew1 | refine below_set ?_ GE241.out | refine below_set ?_ GE274.out) | exact HB.out))) : w.heap.size ≤ gb282)); have n8_ := Aside0.mk ((by rw [hg]; exact (below_size (by repeat (first | (with_reducible first | exact HB.out | apply below_alloc | apply pw_below_drewN | apply below_drew1 | refine below_set ?_ GE241.out | refine below_set ?_ GE274.out) | exact HB.out))) : w.heap.size ≤ gb282)); have n9_ := Aside0.mk ((by rw [hg]; exact Nat.ne_of_lt (blk_lt (g := gb241) (o := .cells #[.int .i64 a1_0, .int .i64 a1_1, .int .i64 a1_2] 67 (0, 0)) (by (with_reducible repeat (first | refine blk_drewN ?_ _ | refine blk_drew ?_ | refine blk_alloc ?_ _)); exact BK241.out)) : gb241 ≠ gb282)); have n10_ := Aside0.mk ((by rw [hg]; exact Nat.ne_of_gt (blk_lt (g := gb241) (o := .cells #[.int .i64 a1_0, .int .i64 a1_1, .int .i64 a1_2] 67 (0, 0)) (by (with_reducible repeat (first | refine blk_drewN ?_ _ | refine blk_drew ?_ | refine blk_alloc ?_ _)); exact BK241.out)) : gb282 ≠ gb241)); have n11_ := Aside0.mk ((by rw [hg]; exact Nat.ne_of_lt (blk_lt (g := gb274) (o := .cells #[.int .i64 t267, .int .i64 t268, .int .i64 t269, .int .i64 t270, .int .i64 t271, .int .i64 t272] 41 (0, 0)) (by (with_reducible repeat (first | refine blk_drewN ?_ _ | refine blk_drew ?_ | refine blk_alloc ?_ _)); exact BK274.out)) : gb274 ≠ gb282)); have n12_ := Aside0.mk ((by rw [hg]; exact Nat.ne_of_gt (blk_lt (g := gb274) (o := .cells #[.int .i64 t267, .int .i64 t268, .int .i64 t269, .int .i64 t270, .int .i64 t271, .int .i64 t272] 41 (0, 0)) (by (with_reducible repeat (first | refine blk_drewN ?_ _ | refine blk_drew ?_ | refine blk_alloc ?_ _)); exact BK274.out)) : gb282 ≠ gb274)); clear HO_6; clear HO_12; clear HO_13; clear BK241; clear BK274; clear HB; have HO_6 := n0_; have HO_12 := n1_; have HO_13 := n2_; have BK241 := n3_; have BK274 := n4_; have HB := n5_; have BK282 := n6_; have GW282 := n7_; have GE282 := n8_; have NB241_282 := n9_; have NB282_241 := n10_; have NB274_282 := n11_; have NB282_274 := n12_; clear n0_ n1_ n2_ n3_ n4_ n5_ n6_ n7_ n8_ n9_ n10_ n11_ n12_; clear hb hbox hg; have hnb38 := NB282_241.out; have hnc38 := NB241_282.out; have hnb39 := NB282_274.out; have hnc39 := NB274_282.out; have hcz40_0 : w37.cell? ⟨gb282, 0, none⟩ = some (.int .i64 0) := (blk_cell BK282.out 0).trans rfl; have hcz40_1 : w37.cell? ⟨gb282, 1, none⟩ = some (.int .i64 0) := (blk_cell BK282.out 1).trans rfl; have hcz40_2 : w37.cell? ⟨gb282, 2, none⟩ = some (.int .i64 0) := (blk_cell BK282.out 2).trans rfl; have hcz40_3 : w37.cell? ⟨gb282, 3, none⟩ = some (.int .i64 0) := (blk_cell BK282.out 3).trans rfl; have hcz40_4 : w37.cell? ⟨gb282, 4, none⟩ = some (.int .i64 0) := (blk_cell BK282.out 4).trans rfl; have hcz40_5 : w37.cell? ⟨gb282, 5, none⟩ = some (.int .i64 0) := (blk_cell BK282.out 5).trans rfl; have hfz40_0 := blk_frozen BK282.out 0; have hfz40_1 := blk_frozen BK282.out 1; have hfz40_2 := blk_frozen BK282.out 2; have hfz40_3 := blk_frozen BK282.out 3; have hfz40_4 := blk_frozen BK282.out 4; have hfz40_5 := blk_frozen BK282.out 5))
       (try simp only [Act.put, List.setIfInBounds_toArray, List.set_cons_zero, List.set_cons_succ])
       go_cut [20] (fun v20 wc => ∃ (kq : Nat) (x20_29 : Bool), v20 = .bool x20_29 ∧ Aside0 (flyleaflaw15_RegionKeeps.j3 kq t242 x6_1 (Go.bits .and .i64 a1_0 63) (Go.bits .and .i64 a1_1 63) t259 t262 t265 x15_3 t273 t281 x20_29 a1_0 a1_1 a1_2 t267 t268 t269 t270 t271 t272 t275 t276 t277 t278 t279 t280 = some r) ∧ Aside0 (kq ≤ k3) ∧ Aside0 (Kd.R k41 41 wc w.heap.size (fun k_ => k_ ≠ gb274 ∧ k_ ≠ gb282) (.slice Ao23 x6_1.length co23) x6_1) ∧ Aside0 (Kd.V k41 41 wc w.heap.size (fun k_ => some k_ ≠ ((.slice Ao23 x6_1.length co23) : Value).ownBlock ∧ k_ ≠ gb241 ∧ k_ ≠ gb274 ∧ k_ ≠ gb282) (.slice Ao35 t259.length co35) t259) ∧ Aside0 (Kd.V k41 41 wc w.heap.size (fun k_ => some k_ ≠ ((.slice Ao23 x6_1.length co23) : Value).ownBlock ∧ k_ ≠ gb241 ∧ k_ ≠ gb274 ∧ k_ ≠ gb282) v263 t262) ∧ Aside0 (wc.heap[gb241]? = some (.cells #[.int .i64 a1_0, .int .i64 a1_1, .int .i64 a1_2] 67 (0, 0))) ∧ Aside0 (wc.heap[gb274]? = some (.cells #[.int .i64 t267, .int .i64 t268, .int .i64 t269, .int .i64 t270, .int .i64 t271, .int .i64 t272] 41 (0, 0))) ∧ Aside0 (wc.heap[gb282]? = some (.cells #[.int .i64 t275, .int .i64 t276, .int .i64 t277, .int .i64 t278, .int .i64 t279, .int .i64 t280] 41 (0, 0))) ∧ Aside0 (Below w.heap.size w wc))
       case first =>
        as_aux_lemma =>
         have H := HC30.out
         clear HC30
         by_cases c41 : x15_3 ≥ (Go.bits .and .i64 a1_0 63)
         rotate_left
         · rw [if_neg c41] at H
           have c41b0 : decide ((Go.bits .and .i64 a1_0 63) ≤ x15_3) = false := decide_eq_false c41
           clear c41
           (first | rw [c41b0] | (simp only [i64_w, i32_w]; rw [c41b0]) | skip)
           have H' := Aside0.mk H
           clear H
           go_wp2
           go_meet
           case rel => exact ⟨_, (false), (by first | rfl | (simp; done) | (simp [*]; done)), H', ⟨by have := HK1.out; have := HJ5.out; have := HK3.out; first | omega | exact Nat.le_refl _⟩, ⟨by (with_reducible repeat (first | apply Kd.R_alloc | apply Kd.R_drewN | apply Kd.R_drew)); exact Kd.R_mono (Kd.R_far (p := ⟨gb282, 5, none⟩) (Kd.R_far (p := ⟨gb282, 4, none⟩) (Kd.R_far (p := ⟨gb282, 3, none⟩) (Kd.R_far (p := ⟨gb282, 2, none⟩) (Kd.R_far (p := ⟨gb282, 1, none⟩) (Kd.R_far (p := ⟨gb282, 0, none⟩) (Kd.R_mono HO_6.out (fun k_ hk => (⟨hk, hk.2⟩ : _ ∧ k_ ≠ gb282))) (fun _ hk => hk.2) (.int .i64 t275)) (fun _ hk => hk.2) (.int .i64 t276)) (fun _ hk => hk.2) (.int .i64 t277)) (fun _ hk => hk.2) (.int .i64 t278)) (fun _ hk => hk.2) (.int .i64 t279)) (fun _ hk => hk.2) (.int .i64 t280)) (fun _ hk => ⟨hk.1.1.2, hk.1.2⟩)⟩, ⟨by (with_reducible repeat (first | apply Kd.V_alloc | apply Kd.V_drewN | apply Kd.V_drew)); exact Kd.V_mono (Kd.V_far (p := ⟨gb282, 5, none⟩) (Kd.V_far (p := ⟨gb282, 4, none⟩) (Kd.V_far (p := ⟨gb282, 3, none⟩) (Kd.V_far (p := ⟨gb282, 2, none⟩) (Kd.V_far (p := ⟨gb282, 1, none⟩) (Kd.V_far (p := ⟨gb282, 0, none⟩) (Kd.V_mono HO_12.out (fun k_ hk => (⟨hk, hk.2⟩ : _ ∧ k_ ≠ gb282))) (fun _ hk => hk.2) (.int .i64 t275)) (fun _ hk => hk.2) (.int .i64 t276)) (fun _ hk => hk.2) (.int .i64 t277)) (fun _ hk => hk.2) (.int .i64 t278)) (fun _ hk => hk.2) (.int .i64 t279)) (fun _ hk => hk.2) (.int .i64 t280)) (fun _ hk => ⟨hk.1.1.1.1, ⟨hk.1.1.1.2, ⟨hk.1.1.2, hk.1.2⟩⟩⟩)⟩, ⟨by (with_reducible repeat (first | apply Kd.V_alloc | apply Kd.V_drewN | apply Kd.V_drew)); exact Kd.V_mono (Kd.V_far (p := ⟨gb282, 5, none⟩) (Kd.V_far (p := ⟨gb282, 4, none⟩) (Kd.V_far (p := ⟨gb282, 3, none⟩) (Kd.V_far (p := ⟨gb282, 2, none⟩) (Kd.V_far (p := ⟨gb282, 1, none⟩) (Kd.V_far (p := ⟨gb282, 0, none⟩) (Kd.V_mono HO_13.out (fun k_ hk => (⟨hk, hk.2⟩ : _ ∧ k_ ≠ gb282))) (fun _ hk => hk.2) (.int .i64 t275)) (fun _ hk => hk.2) (.int .i64 t276)) (fun _ hk => hk.2) (.int .i64 t277)) (fun _ hk => hk.2) (.int .i64 t278)) (fun _ hk => hk.2) (.int .i64 t279)) (fun _ hk => hk.2) (.int .i64 t280)) (fun _ hk => ⟨hk.1.1.1.1, ⟨hk.1.1.1.2, ⟨hk.1.1.2, hk.1.2⟩⟩⟩)⟩, ⟨by (with_reducible repeat (first | refine blk_drewN ?_ _ | refine blk_drew ?_ | refine blk_alloc ?_ _)); refine blk_far ?_ NB241_282.out _; (with_reducible repeat (first | refine blk_drewN ?_ _ | refine blk_drew ?_ | refine blk_alloc ?_ _)); refine blk_far ?_ NB241_282.out _; (with_reducible repeat (first | refine blk_drewN ?_ _ | refine blk_drew ?_ | refine blk_alloc ?_ _)); refine blk_far ?_ NB241_282.out _; (with_reducible repeat (first | refine blk_drewN ?_ _ | refine blk_drew ?_ | refine blk_alloc ?_ _)); refine blk_far ?_ NB241_282.out _; (with_reducible repeat (first | refine blk_drewN ?_ _ | refine blk_drew ?_ | refine blk_alloc ?_ _)); refine blk_far ?_ NB241_282.out _; (with_reducible repeat (first | refine blk_drewN ?_ _ | refine blk_drew ?_ | refine blk_alloc ?_ _)); refine blk_far ?_ NB241_282.out _; (with_reducible repeat (first | refine blk_drewN ?_ _ | refine blk_drew ?_ | refine blk_alloc ?_ _)); exact BK241.out⟩, ⟨by (with_reducible repeat (first | refine blk_drewN ?_ _ | refine blk_drew ?_ | refine blk_alloc ?_ _)); refine blk_far ?_ NB274_282.out _; (with_reducible repeat (first | refine blk_drewN ?_ _ | refine blk_drew ?_ | refine blk_alloc ?_ _)); refine blk_far ?_ NB274_282.out _; (with_reducible repeat (first | refine blk_drewN ?_ _ | refine blk_drew ?_ | refine blk_alloc ?_ _)); refine blk_far ?_ NB274_282.out _; (with_reducible repeat (first | refine blk_drewN ?_ _ | refine blk_drew ?_ | refine blk_alloc ?_ _)); refine blk_far ?_ NB274_282.out _; (with_reducible repeat (first | refine blk_drewN ?_ _ | refine blk_drew ?_ | refine blk_alloc ?_ _)); refine blk_far ?_ NB274_282.out _; (with_reducible repeat (first | refine blk_drewN ?_ _ | refine blk_drew ?_ | refine blk_alloc ?_ _)); refine blk_far ?_ NB274_282.out _; (with_reducible repeat (first | refine blk_drewN ?_ _ | refine blk_drew ?_ | refine blk_alloc ?_ _)); exact BK274.out⟩, ⟨by (with_reducible repeat (first | refine blk_drewN ?_ _ | refine blk_drew ?_ | refine blk_alloc ?_ _)); refine blk_put (cs := #[.int .i64 t275, .int .i64 t276, .int .i64 t277, .int .i64 t278, .int .i64 t279, .int .i64 0]) ?_ 5 _ rfl; (with_reducible repeat (first | refine blk_drewN ?_ _ | refine blk_drew ?_ | refine blk_alloc ?_ _)); refine blk_put (cs := #[.int .i64 t275, .int .i64 t276, .int .i64 t277, .int .i64 t278, .int .i64 0, .int .i64 0]) ?_ 4 _ rfl; (with_reducible repeat (first | refine blk_drewN ?_ _ | refine blk_drew ?_ | refine blk_alloc ?_ _)); refine blk_put (cs := #[.int .i64 t275, .int .i64 t276, .int .i64 t277, .int .i64 0, .int .i64 0, .int .i64 0]) ?_ 3 _ rfl; (with_reducible repeat (first | refine blk_drewN ?_ _ | refine blk_drew ?_ | refine blk_alloc ?_ _)); refine blk_put (cs := #[.int .i64 t275, .int .i64 t276, .int .i64 0, .int .i64 0, .int .i64 0, .int .i64 0]) ?_ 2 _ rfl; (with_reducible repeat (first | refine blk_drewN ?_ _ | refine blk_drew ?_ | refine blk_alloc ?_ _)); refine blk_put (cs := #[.int .i64 t275, .int .i64 0, .int .i64 0, .int .i64 0, .int .i64 0, .int .i64 0]) ?_ 1 _ rfl; (with_reducible repeat (first | refine blk_drewN ?_ _ | refine blk_drew ?_ | refine blk_alloc ?_ _)); refine blk_put (cs := #[.int .i64 0, .int .i64 0, .int .i64 0, .int .i64 0, .int .i64 0, .int .i64 0]) ?_ 0 _ rfl; (with_reducible repeat (first | refine blk_drewN ?_ _ | refine blk_drew ?_ | refine blk_alloc ?_ _)); exact BK282.out⟩, ⟨by repeat (first | (with_reducible first | exact HB.out | apply below_alloc | apply pw_below_drewN | apply below_drew1 | refine below_set ?_ GE241.out | refine below_set ?_ GE274.out | refine below_set ?_ GE282.out) | exact HB.out)⟩⟩
         rw [if_pos c41] at H
         have c41b0 : decide ((Go.bits .and .i64 a1_0 63) ≤ x15_3) = true := decide_eq_true c41
         clear c41
         (first | rw [c41b0] | (simp only [i64_w, i32_w]; rw [c41b0]) | skip)
         have H' := Aside0.mk H
         clear H
         go_wp2
         go_meet
         case rel => exact ⟨_, (decide (x15_3 < (Go.bits .and .i64 a1_1 63))), (by first | rfl | (simp; done) | (simp [*]; done)), H', ⟨by have := HK1.out; have := HJ5.out; have := HK3.out; first | omega | exact Nat.le_refl _⟩, ⟨by (with_reducible repeat (first | apply Kd.R_alloc | apply Kd.R_drewN | apply Kd.R_drew)); exact Kd.R_mono (Kd.R_far (p := ⟨gb282, 5, none⟩) (Kd.R_far (p := ⟨gb282, 4, none⟩) (Kd.R_far (p := ⟨gb282, 3, none⟩) (Kd.R_far (p := ⟨gb282, 2, none⟩) (Kd.R_far (p := ⟨gb282, 1, none⟩) (Kd.R_far (p := ⟨gb282, 0, none⟩) (Kd.R_mono HO_6.out (fun k_ hk => (⟨hk, hk.2⟩ : _ ∧ k_ ≠ gb282))) (fun _ hk => hk.2) (.int .i64 t275)) (fun _ hk => hk.2) (.int .i64 t276)) (fun _ hk => hk.2) (.int .i64 t277)) (fun _ hk => hk.2) (.int .i64 t278)) (fun _ hk => hk.2) (.int .i64 t279)) (fun _ hk => hk.2) (.int .i64 t280)) (fun _ hk => ⟨hk.1.1.2, hk.1.2⟩)⟩, ⟨by (with_reducible repeat (first | apply Kd.V_alloc | apply Kd.V_drewN | apply Kd.V_drew)); exact Kd.V_mono (Kd.V_far (p := ⟨gb282, 5, none⟩) (Kd.V_far (p := ⟨gb282, 4, none⟩) (Kd.V_far (p := ⟨gb282, 3, none⟩) (Kd.V_far (p := ⟨gb282, 2, none⟩) (Kd.V_far (p := ⟨gb282, 1, none⟩) (Kd.V_far (p := ⟨gb282, 0, none⟩) (Kd.V_mono HO_12.out (fun k_ hk => (⟨hk, hk.2⟩ : _ ∧ k_ ≠ gb282))) (fun _ hk => hk.2) (.int .i64 t275)) (fun _ hk => hk.2) (.int .i64 t276)) (fun _ hk => hk.2) (.int .i64 t277)) (fun _ hk => hk.2) (.int .i64 t278)) (fun _ hk => hk.2) (.int .i64 t279)) (fun _ hk => hk.2) (.int .i64 t280)) (fun _ hk => ⟨hk.1.1.1.1, ⟨hk.1.1.1.2, ⟨hk.1.1.2, hk.1.2⟩⟩⟩)⟩, ⟨by (with_reducible repeat (first | apply Kd.V_alloc | apply Kd.V_drewN | apply Kd.V_drew)); exact Kd.V_mono (Kd.V_far (p := ⟨gb282, 5, none⟩) (Kd.V_far (p := ⟨gb282, 4, none⟩) (Kd.V_far (p := ⟨gb282, 3, none⟩) (Kd.V_far (p := ⟨gb282, 2, none⟩) (Kd.V_far (p := ⟨gb282, 1, none⟩) (Kd.V_far (p := ⟨gb282, 0, none⟩) (Kd.V_mono HO_13.out (fun k_ hk => (⟨hk, hk.2⟩ : _ ∧ k_ ≠ gb282))) (fun _ hk => hk.2) (.int .i64 t275)) (fun _ hk => hk.2) (.int .i64 t276)) (fun _ hk => hk.2) (.int .i64 t277)) (fun _ hk => hk.2) (.int .i64 t278)) (fun _ hk => hk.2) (.int .i64 t279)) (fun _ hk => hk.2) (.int .i64 t280)) (fun _ hk => ⟨hk.1.1.1.1, ⟨hk.1.1.1.2, ⟨hk.1.1.2, hk.1.2⟩⟩⟩)⟩, ⟨by (with_reducible repeat (first | refine blk_drewN ?_ _ | refine blk_drew ?_ | refine blk_alloc ?_ _)); refine blk_far ?_ NB241_282.out _; (with_reducible repeat (first | refine blk_drewN ?_ _ | refine blk_drew ?_ | refine blk_alloc ?_ _)); refine blk_far ?_ NB241_282.out _; (with_reducible repeat (first | refine blk_drewN ?_ _ | refine blk_drew ?_ | refine blk_alloc ?_ _)); refine blk_far ?_ NB241_282.out _; (with_reducible repeat (first | refine blk_drewN ?_ _ | refine blk_drew ?_ | refine blk_alloc ?_ _)); refine blk_far ?_ NB241_282.out _; (with_reducible repeat (first | refine blk_drewN ?_ _ | refine blk_drew ?_ | refine blk_alloc ?_ _)); refine blk_far ?_ NB241_282.out _; (with_reducible repeat (first | refine blk_drewN ?_ _ | refine blk_drew ?_ | refine blk_alloc ?_ _)); refine blk_far ?_ NB241_282.out _; (with_reducible repeat (first | refine blk_drewN ?_ _ | refine blk_drew ?_ | refine blk_alloc ?_ _)); exact BK241.out⟩, ⟨by (with_reducible repeat (first | refine blk_drewN ?_ _ | refine blk_drew ?_ | refine blk_alloc ?_ _)); refine blk_far ?_ NB274_282.out _; (with_reducible repeat (first | refine blk_drewN ?_ _ | refine blk_drew ?_ | refine blk_alloc ?_ _)); refine blk_far ?_ NB274_282.out _; (with_reducible repeat (first | refine blk_drewN ?_ _ | refine blk_drew ?_ | refine blk_alloc ?_ _)); refine blk_far ?_ NB274_282.out _; (with_reducible repeat (first | refine blk_drewN ?_ _ | refine blk_drew ?_ | refine blk_alloc ?_ _)); refine blk_far ?_ NB274_282.out _; (with_reducible repeat (first | refine blk_drewN ?_ _ | refine blk_drew ?_ | refine blk_alloc ?_ _)); refine blk_far ?_ NB274_282.out _; (with_reducible repeat (first | refine blk_drewN ?_ _ | refine blk_drew ?_ | refine blk_alloc ?_ _)); refine blk_far ?_ NB274_282.out _; (with_reducible repeat (first | refine blk_drewN ?_ _ | refine blk_drew ?_ | refine blk_alloc ?_ _)); exact BK274.out⟩, ⟨by (with_reducible repeat (first | refine blk_drewN ?_ _ | refine blk_drew ?_ | refine blk_alloc ?_ _)); refine blk_put (cs := #[.int .i64 t275, .int .i64 t276, .int .i64 t277, .int .i64 t278, .int .i64 t279, .int .i64 0]) ?_ 5 _ rfl; (with_reducible repeat (first | refine blk_drewN ?_ _ | refine blk_drew ?_ | refine blk_alloc ?_ _)); refine blk_put (cs := #[.int .i64 t275, .int .i64 t276, .int .i64 t277, .int .i64 t278, .int .i64 0, .int .i64 0]) ?_ 4 _ rfl; (with_reducible repeat (first | refine blk_drewN ?_ _ | refine blk_drew ?_ | refine blk_alloc ?_ _)); refine blk_put (cs := #[.int .i64 t275, .int .i64 t276, .int .i64 t277, .int .i64 0, .int .i64 0, .int .i64 0]) ?_ 3 _ rfl; (with_reducible repeat (first | refine blk_drewN ?_ _ | refine blk_drew ?_ | refine blk_alloc ?_ _)); refine blk_put (cs := #[.int .i64 t275, .int .i64 t276, .int .i64 0, .int .i64 0, .int .i64 0, .int .i64 0]) ?_ 2 _ rfl; (with_reducible repeat (first | refine blk_drewN ?_ _ | refine blk_drew ?_ | refine blk_alloc ?_ _)); refine blk_put (cs := #[.int .i64 t275, .int .i64 0, .int .i64 0, .int .i64 0, .int .i64 0, .int .i64 0]) ?_ 1 _ rfl; (with_reducible repeat (first | refine blk_drewN ?_ _ | refine blk_drew ?_ | refine blk_alloc ?_ _)); refine blk_put (cs := #[.int .i64 0, .int .i64 0, .int .i64 0, .int .i64 0, .int .i64 0, .int .i64 0]) ?_ 0 _ rfl; (with_reducible repeat (first | refine blk_drewN ?_ _ | refine blk_drew ?_ | refine blk_alloc ?_ _)); exact BK282.out⟩, ⟨by repeat (first | (with_reducible first | exact HB.out | apply below_alloc | apply pw_below_drewN | apply below_drew1 | refine below_set ?_ GE241.out | refine below_set ?_ GE274.out | refine below_set ?_ GE282.out) | exact HB.out)⟩⟩
       case rest =>
        clear HC30
        try clear c1
        try clear c2
        try clear p2
        try clear q2
        try clear hx2
        try clear c3
        try clear c4
        try clear p6
        try clear c7
        try clear c7b0
        try clear c8
        try clear c9
        try clear c9b0
        try clear c10
        try clear c10b0
        try clear c13
        try clear c13b0
        try clear c13b1
        try clear c23
        try clear p24
        try clear q24
        try clear hx24
        try clear c27
        try clear c27b0
        try clear c33
        try clear c34
        try clear c35
        try clear c36
        try clear c37
        try clear c38
        try clear c39
        try clear c41
        try clear c41b0
        try clear hcz22_0
        try clear hcz22_1
        try clear hcz22_2
        try clear hcz25_0
        try clear hcz25_1
        try clear hcz25_2
        try clear hcz34_0
        try clear hcz34_1
        try clear hcz34_2
        try clear hcz34_3
        try clear hcz34_4
        try clear hcz34_5
        try clear hcz40_0
        try clear hcz40_1
        try clear hcz40_2
        try clear hcz40_3
        try clear hcz40_4
        try clear hcz40_5
        try clear hfz22_0
        try clear hfz22_1
        try clear hfz22_2
        try clear hfz25_0
        try clear hfz25_1
        try clear hfz25_2
        try clear hfz34_0
        try clear hfz34_1
        try clear hfz34_2
        try clear hfz34_3
        try clear hfz34_4
        try clear hfz34_5
        try clear hfz40_0
        try clear hfz40_1
        try clear hfz40_2
        try clear hfz40_3
        try clear hfz40_4
        try clear hfz40_5
        try clear hx243_0
        try clear hx243_1
        try clear hx243_10
        try clear hx243_2
        try clear hx243_3
        try clear hx243_4
        try clear hx243_5
        try clear hx243_6
        try clear hx243_7
        try clear hx243_8
        try clear hx243_9
        try clear p2
        try clear p24
        try clear p243
        try clear p6
        try clear q2
        try clear q24
        try clear q243
        obtain ⟨kq, x20_29, rfl, HA, HJ29, HO_6, HO_12, HO_13, BK241, BK274, BK282, HB⟩ := hcut
        cases kq with
        | zero => exact absurd HA.out (by simp [flyleaflaw15_RegionKeeps.j3])
        | succ kj29 =>
         have H := HA.out
         clear HA
         simp only [flyleaflaw15_RegionKeeps.j3] at H
         have HC42 := Aside0.mk H
         clear H
         go_upto_region 19 with (fail)
         go_cut [134] (fun v134 wc => ∃ (kq : Nat) (x134_41 : Bool), v134 = .bool x134_41 ∧ Aside0 (flyleaflaw15_RegionKeeps.j4 kq t242 x6_1 (Go.bits .and .i64 a1_0 63) (Go.bits .and .i64 a1_1 63) t259 t262 t265 x15_3 t273 x20_29 x134_41 a1_0 a1_1 a1_2 t267 t268 t269 t270 t271 t272 t275 t276 t277 t278 t279 t280 = some r) ∧ Aside0 (kq ≤ kj29) ∧ Aside0 (Kd.R k41 41 wc w.heap.size (fun k_ => k_ ≠ gb274 ∧ k_ ≠ gb282) (.slice Ao23 x6_1.length co23) x6_1) ∧ Aside0 (Kd.V k41 41 wc w.heap.size (fun k_ => some k_ ≠ ((.slice Ao23 x6_1.length co23) : Value).ownBlock ∧ k_ ≠ gb241 ∧ k_ ≠ gb274 ∧ k_ ≠ gb282) (.slice Ao35 t259.length co35) t259) ∧ Aside0 (Kd.V k41 41 wc w.heap.size (fun k_ => some k_ ≠ ((.slice Ao23 x6_1.length co23) : Value).ownBlock ∧ k_ ≠ gb241 ∧ k_ ≠ gb274 ∧ k_ ≠ gb282) v263 t262) ∧ Aside0 (wc.heap[gb241]? = some (.cells #[.int .i64 a1_0, .int .i64 a1_1, .int .i64 a1_2] 67 (0, 0))) ∧ Aside0 (wc.heap[gb274]? = some (.cells #[.int .i64 t267, .int .i64 t268, .int .i64 t269, .int .i64 t270, .int .i64 t271, .int .i64 t272] 41 (0, 0))) ∧ Aside0 (wc.heap[gb282]? = some (.cells #[.int .i64 t275, .int .i64 t276, .int .i64 t277, .int .i64 t278, .int .i64 t279, .int .i64 t280] 41 (0, 0))) ∧ Aside0 (Below w.heap.size w wc))
         case first =>
          as_aux_lemma =>
           have H := HC42.out
           clear HC42
           by_cases c43 : x20_29 = true
           · subst c43
             have H1 : (if t281 = true then (flyleaflaw15_RegionKeeps.j4 kj29 t242 x6_1 (Go.bits .and .i64 a1_0 63) (Go.bits .and .i64 a1_1 63) t259 t262 t265 x15_3 t273 true true a1_0 a1_1 a1_2 t267 t268 t269 t270 t271 t272 t275 t276 t277 t278 t279 t280) else (flyleaflaw15_RegionKeeps.j4 kj29 t242 x6_1 (Go.bits .and .i64 a1_0 63) (Go.bits .and .i64 a1_1 63) t259 t262 t265 x15_3 t273 true false a1_0 a1_1 a1_2 t267 t268 t269 t270 t271 t272 t275 t276 t277 t278 t279 t280)) = some r := by rw [if_pos rfl] at H; exact H
             clear H
             have H := H1
             clear H1
             by_cases c44 : t281 = true
             · subst c44
               have H1 : (flyleaflaw15_RegionKeeps.j4 kj29 t242 x6_1 (Go.bits .and .i64 a1_0 63) (Go.bits .and .i64 a1_1 63) t259 t262 t265 x15_3 t273 true true a1_0 a1_1 a1_2 t267 t268 t269 t270 t271 t272 t275 t276 t277 t278 t279 t280) = some r := by rw [if_pos rfl] at H; exact H
               clear H
               have H := H1
               clear H1
               have H' := Aside0.mk H
               clear H
               go_wp2
               go_meet
               case rel => exact ⟨_, (true), (by first | rfl | (simp; done) | (simp [*]; done)), H', ⟨by have := HK1.out; have := HJ5.out; have := HK3.out; have := HJ29.out; first | omega | exact Nat.le_refl _⟩, ⟨by (with_reducible repeat (first | apply Kd.R_alloc | apply Kd.R_drewN | apply Kd.R_drew)); exact HO_6.out⟩, ⟨by (with_reducible repeat (first | apply Kd.V_alloc | apply Kd.V_drewN | apply Kd.V_drew)); exact HO_12.out⟩, ⟨by (with_reducible repeat (first | apply Kd.V_alloc | apply Kd.V_drewN | apply Kd.V_drew)); exact HO_13.out⟩, ⟨by (with_reducible repeat (first | refine blk_drewN ?_ _ | refine blk_drew ?_ | refine blk_alloc ?_ _)); exact BK241.out⟩, ⟨by (with_reducible repeat (first | refine blk_drewN ?_ _ | refine blk_drew ?_ | refine blk_alloc ?_ _)); exact BK274.out⟩, ⟨by (with_reducible repeat (first | refine blk_drewN ?_ _ | refine blk_drew ?_ | refine blk_alloc ?_ _)); exact BK282.out⟩, ⟨by repeat (first | (with_reducible first | exact HB.out | apply below_alloc | apply pw_below_drewN | apply below_drew1 | refine below_set ?_ GE241.out | refine below_set ?_ GE274.out | refine below_set ?_ GE282.out) | exact HB.out)⟩⟩
             replace c44 := Bool.eq_false_iff.mpr c44
             subst c44
             have H1 : (flyleaflaw15_RegionKeeps.j4 kj29 t242 x6_1 (Go.bits .and .i64 a1_0 63) (Go.bits .and .i64 a1_1 63) t259 t262 t265 x15_3 t273 true false a1_0 a1_1 a1_2 t267 t268 t269 t270 t271 t272 t275 t276 t277 t278 t279 t280) = some r := by rw [if_neg (show ¬ (false = true) by decide)] at H; exact H
             clear H
             have H := H1
             clear H1
             have H' := Aside0.mk H
             clear H
             go_wp2
             go_meet
             case rel => exact ⟨_, (false), (by first | rfl | (simp; done) | (simp [*]; done)), H', ⟨by have := HK1.out; have := HJ5.out; have := HK3.out; have := HJ29.out; first | omega | exact Nat.le_refl _⟩, ⟨by (with_reducible repeat (first | apply Kd.R_alloc | apply Kd.R_drewN | apply Kd.R_drew)); exact HO_6.out⟩, ⟨by (with_reducible repeat (first | apply Kd.V_alloc | apply Kd.V_drewN | apply Kd.V_drew)); exact HO_12.out⟩, ⟨by (with_reducible repeat (first | apply Kd.V_alloc | apply Kd.V_drewN | apply Kd.V_drew)); exact HO_13.out⟩, ⟨by (with_reducible repeat (first | refine blk_drewN ?_ _ | refine blk_drew ?_ | refine blk_alloc ?_ _)); exact BK241.out⟩, ⟨by (with_reducible repeat (first | refine blk_drewN ?_ _ | refine blk_drew ?_ | refine blk_alloc ?_ _)); exact BK274.out⟩, ⟨by (with_reducible repeat (first | refine blk_drewN ?_ _ | refine blk_drew ?_ | refine blk_alloc ?_ _)); exact BK282.out⟩, ⟨by repeat (first | (with_reducible first | exact HB.out | apply below_alloc | apply pw_below_drewN | apply below_drew1 | refine below_set ?_ GE241.out | refine below_set ?_ GE274.out | refine below_set ?_ GE282.out) | exact HB.out)⟩⟩
           replace c43 := Bool.eq_false_iff.mpr c43
           subst c43
           have H1 : (if (t273 != t281) = true then (flyleaflaw15_RegionKeeps.j4 kj29 t242 x6_1 (Go.bits .and .i64 a1_0 63) (Go.bits .and .i64 a1_1 63) t259 t262 t265 x15_3 t273 false true a1_0 a1_1 a1_2 t267 t268 t269 t270 t271 t272 t275 t276 t277 t278 t279 t280) else (if t273 = true then (if t269 = t277 then (if t270 = t278 then (flyleaflaw15_RegionKeeps.j4 kj29 t242 x6_1 (Go.bits .and .i64 a1_0 63) (Go.bits .and .i64 a1_1 63) t259 t262 t265 x15_3 t273 false (t271 != t279) a1_0 a1_1 a1_2 t267 t268 t269 t270 t271 t272 t275 t276 t277 t278 t279 t280) else (flyleaflaw15_RegionKeeps.j4 kj29 t242 x6_1 (Go.bits .and .i64 a1_0 63) (Go.bits .and .i64 a1_1 63) t259 t262 t265 x15_3 t273 false true a1_0 a1_1 a1_2 t267 t268 t269 t270 t271 t272 t275 t276 t277 t278 t279 t280)) else (flyleaflaw15_RegionKeeps.j4 kj29 t242 x6_1 (Go.bits .and .i64 a1_0 63) (Go.bits .and .i64 a1_1 63) t259 t262 t265 x15_3 t273 false true a1_0 a1_1 a1_2 t267 t268 t269 t270 t271 t272 t275 t276 t277 t278 t279 t280)) else (flyleaflaw15_RegionKeeps.j4 kj29 t242 x6_1 (Go.bits .and .i64 a1_0 63) (Go.bits .and .i64 a1_1 63) t259 t262 t265 x15_3 t273 false false a1_0 a1_1 a1_2 t267 t268 t269 t270 t271 t272 t275 t276 t277 t278 t279 t280))) = some r := by rw [if_neg (show ¬ (false = true) by decide)] at H; exact H
           clear H
           have H := H1
           clear H1
           by_cases c45 : (t273 != t281) = true
           · rw [if_pos c45] at H
             have c45b0 : (t273 != t281) = true := c45
             (try (have c45b1 : decide (t273 = t281) = false := by simpa using c45))
             (try (have c45b2 : (t273 == t281) = false := by simpa using c45))
             (try (have c45b3 : ¬ (t273 = t281) := by simpa using c45))
             clear c45
             (first | rw [c45b0] | (simp only [i64_w, i32_w]; rw [c45b0]) | skip)
             have H' := Aside0.mk H
             clear H
             go_wp2
             go_meet
             case rel => exact ⟨_, (true), (by first | rfl | (simp; done) | (simp [*]; done)), H', ⟨by have := HK1.out; have := HJ5.out; have := HK3.out; have := HJ29.out; first | omega | exact Nat.le_refl _⟩, ⟨by (with_reducible repeat (first | apply Kd.R_alloc | apply Kd.R_drewN | apply Kd.R_drew)); exact HO_6.out⟩, ⟨by (with_reducible repeat (first | apply Kd.V_alloc | apply Kd.V_drewN | apply Kd.V_drew)); exact HO_12.out⟩, ⟨by (with_reducible repeat (first | apply Kd.V_alloc | apply Kd.V_drewN | apply Kd.V_drew)); exact HO_13.out⟩, ⟨by (with_reducible repeat (first | refine blk_drewN ?_ _ | refine blk_drew ?_ | refine blk_alloc ?_ _)); exact BK241.out⟩, ⟨by (with_reducible repeat (first | refine blk_drewN ?_ _ | refine blk_drew ?_ | refine blk_alloc ?_ _)); exact BK274.out⟩, ⟨by (with_reducible repeat (first | refine blk_drewN ?_ _ | refine blk_drew ?_ | refine blk_alloc ?_ _)); exact BK282.out⟩, ⟨by repeat (first | (with_reducible first | exact HB.out | apply below_alloc | apply pw_below_drewN | apply below_drew1 | refine below_set ?_ GE241.out | refine below_set ?_ GE274.out | refine below_set ?_ GE282.out) | exact HB.out)⟩⟩
           rw [if_neg c45] at H
           have c45b0 : (t273 != t281) = false := by simpa using c45
           (try (have c45b1 : decide (t273 = t281) = true := by simpa using c45))
           (try (have c45b2 : (t273 == t281) = true := by simpa using c45))
           clear c45
           (first | rw [c45b0] | (simp only [i64_w, i32_w]; rw [c45b0]) | skip)
           by_cases c46 : t273 = true
           rotate_left
           · replace c46 := Bool.eq_false_iff.mpr c46
             subst c46
             have H1 : (flyleaflaw15_RegionKeeps.j4 kj29 t242 x6_1 (Go.bits .and .i64 a1_0 63) (Go.bits .and .i64 a1_1 63) t259 t262 t265 x15_3 false false false a1_0 a1_1 a1_2 t267 t268 t269 t270 t271 t272 t275 t276 t277 t278 t279 t280) = some r := by rw [if_neg (show ¬ (false = true) by decide)] at H; exact H
             clear H
             have H := H1
             clear H1
             have H' := Aside0.mk H
             clear H
             go_wp2
             go_meet
             case rel => exact ⟨_, (false), (by first | rfl | (simp; done) | (simp [*]; done)), H', ⟨by have := HK1.out; have := HJ5.out; have := HK3.out; have := HJ29.out; first | omega | exact Nat.le_refl _⟩, ⟨by (with_reducible repeat (first | apply Kd.R_alloc | apply Kd.R_drewN | apply Kd.R_drew)); exact HO_6.out⟩, ⟨by (with_reducible repeat (first | apply Kd.V_alloc | apply Kd.V_drewN | apply Kd.V_drew)); exact HO_12.out⟩, ⟨by (with_reducible repeat (first | apply Kd.V_alloc | apply Kd.V_drewN | apply Kd.V_drew)); exact HO_13.out⟩, ⟨by (with_reducible repeat (first | refine blk_drewN ?_ _ | refine blk_drew ?_ | refine blk_alloc ?_ _)); exact BK241.out⟩, ⟨by (with_reducible repeat (first | refine blk_drewN ?_ _ | refine blk_drew ?_ | refine blk_alloc ?_ _)); exact BK274.out⟩, ⟨by (with_reducible repeat (first | refine blk_drewN ?_ _ | refine blk_drew ?_ | refine blk_alloc ?_ _)); exact BK282.out⟩, ⟨by repeat (first | (with_reducible first | exact HB.out | apply below_alloc | apply pw_below_drewN | apply below_drew1 | refine below_set ?_ GE241.out | refine below_set ?_ GE274.out | refine below_set ?_ GE282.out) | exact HB.out)⟩⟩
           subst c46
           have H1 : (if t269 = t277 then (if t270 = t278 then (flyleaflaw15_RegionKeeps.j4 kj29 t242 x6_1 (Go.bits .and .i64 a1_0 63) (Go.bits .and .i64 a1_1 63) t259 t262 t265 x15_3 true false (t271 != t279) a1_0 a1_1 a1_2 t267 t268 t269 t270 t271 t272 t275 t276 t277 t278 t279 t280) else (flyleaflaw15_RegionKeeps.j4 kj29 t242 x6_1 (Go.bits .and .i64 a1_0 63) (Go.bits .and .i64 a1_1 63) t259 t262 t265 x15_3 true false true a1_0 a1_1 a1_2 t267 t268 t269 t270 t271 t272 t275 t276 t277 t278 t279 t280)) else (flyleaflaw15_RegionKeeps.j4 kj29 t242 x6_1 (Go.bits .and .i64 a1_0 63) (Go.bits .and .i64 a1_1 63) t259 t262 t265 x15_3 true false true a1_0 a1_1 a1_2 t267 t268 t269 t270 t271 t272 t275 t276 t277 t278 t279 t280)) = some r := by rw [if_pos rfl] at H; exact H
           clear H
           have H := H1
           clear H1
           by_cases c47 : t269 = t277
           rotate_left
           · rw [if_neg c47] at H
             have c47b0 : (t269 == t277) = false := beq_eq_false_iff_ne.mpr c47
             have c47b1 : (t269 != t277) = true := bne_iff_ne.mpr c47
             have H' := Aside0.mk H
             clear H
             have hnb59 := NB274_241.out
             have hnc59 := NB241_274.out
             have hnb60 := NB274_282.out
             have hnc60 := NB282_274.out
             have hcz61_0 : wc.cell? ⟨gb274, 0, none⟩ = some (.int .i64 t267) := (blk_cell BK274.out 0).trans rfl
             have hcz61_1 : wc.cell? ⟨gb274, 1, none⟩ = some (.int .i64 t268) := (blk_cell BK274.out 1).trans rfl
             have hcz61_2 : wc.cell? ⟨gb274, 2, none⟩ = some (.int .i64 t269) := (blk_cell BK274.out 2).trans rfl
             have hcz61_3 : wc.cell? ⟨gb274, 3, none⟩ = some (.int .i64 t270) := (blk_cell BK274.out 3).trans rfl
             have hcz61_4 : wc.cell? ⟨gb274, 4, none⟩ = some (.int .i64 t271) := (blk_cell BK274.out 4).trans rfl
             have hcz61_5 : wc.cell? ⟨gb274, 5, none⟩ = some (.int .i64 t272) := (blk_cell BK274.out 5).trans rfl
             have hfz61_0 := blk_frozen BK274.out 0
             have hfz61_1 := blk_frozen BK274.out 1
             have hfz61_2 := blk_frozen BK274.out 2
             have hfz61_3 := blk_frozen BK274.out 3
             have hfz61_4 := blk_frozen BK274.out 4
             have hfz61_5 := blk_frozen BK274.out 5
             have hnb62 := NB282_241.out
             have hnc62 := NB241_282.out
             have hcz63_0 : wc.cell? ⟨gb282, 0, none⟩ = some (.int .i64 t275) := (blk_cell BK282.out 0).trans rfl
             have hcz63_1 : wc.cell? ⟨gb282, 1, none⟩ = some (.int .i64 t276) := (blk_cell BK282.out 1).trans rfl
             have hcz63_2 : wc.cell? ⟨gb282, 2, none⟩ = some (.int .i64 t277) := (blk_cell BK282.out 2).trans rfl
             have hcz63_3 : wc.cell? ⟨gb282, 3, none⟩ = some (.int .i64 t278) := (blk_cell BK282.out 3).trans rfl
             have hcz63_4 : wc.cell? ⟨gb282, 4, none⟩ = some (.int .i64 t279) := (blk_cell BK282.out 4).trans rfl
             have hcz63_5 : wc.cell? ⟨gb282, 5, none⟩ = some (.int .i64 t280) := (blk_cell BK282.out 5).trans rfl
             have hfz63_0 := blk_frozen BK282.out 0
             have hfz63_1 := blk_frozen BK282.out 1
             have hfz63_2 := blk_frozen BK282.out 2
             have hfz63_3 := blk_frozen BK282.out 3
             have hfz63_4 := blk_frozen BK282.out 4
             have hfz63_5 := blk_frozen BK282.out 5
             go_wp2
             go_meet
             case rel => exact ⟨_, (true), (by first | rfl | (simp; done) | (simp [*]; done)), H', ⟨by have := HK1.out; have := HJ5.out; have := HK3.out; have := HJ29.out; first | omega | exact Nat.le_refl _⟩, ⟨by (with_reducible repeat (first | apply Kd.R_alloc | apply Kd.R_drewN | apply Kd.R_drew)); exact HO_6.out⟩, ⟨by (with_reducible repeat (first | apply Kd.V_alloc | apply Kd.V_drewN | apply Kd.V_drew)); exact HO_12.out⟩, ⟨by (with_reducible repeat (first | apply Kd.V_alloc | apply Kd.V_drewN | apply Kd.V_drew)); exact HO_13.out⟩, ⟨by (with_reducible repeat (first | refine blk_drewN ?_ _ | refine blk_drew ?_ | refine blk_alloc ?_ _)); exact BK241.out⟩, ⟨by (with_reducible repeat (first | refine blk_drewN ?_ _ | refine blk_drew ?_ | refine blk_alloc ?_ _)); exact BK274.out⟩, ⟨by (with_reducible repeat (first | refine blk_drewN ?_ _ | refine blk_drew ?_ | refine blk_alloc ?_ _)); exact BK282.out⟩, ⟨by repeat (first | (with_reducible first | exact HB.out | apply below_alloc | apply pw_below_drewN | apply below_drew1 | refine below_set ?_ GE241.out | refine below_set ?_ GE274.out | refine below_set ?_ GE282.out) | exact HB.out)⟩⟩
           rw [if_pos c47] at H
           have c47b0 : (t269 == t277) = true := beq_iff_eq.mpr c47
           have c47b1 : (t269 != t277) = false := bne_eq_false_iff_eq.mpr c47
           clear c47
           by_cases c48 : t270 = t278
           rotate_left
           · rw [if_neg c48] at H
             have c48b0 : (t270 == t278) = false := beq_eq_false_iff_ne.mpr c48
             have c48b1 : (t270 != t278) = true := bne_iff_ne.mpr c48
             have H' := Aside0.mk H
             clear H
             have hnb54 := NB274_241.out
             have hnc54 := NB241_274.out
             have hnb55 := NB274_282.out
             have hnc55 := NB282_274.out
             have hcz56_0 : wc.cell? ⟨gb274, 0, none⟩ = some (.int .i64 t267) := (blk_cell BK274.out 0).trans rfl
             have hcz56_1 : wc.cell? ⟨gb274, 1, none⟩ = some (.int .i64 t268) := (blk_cell BK274.out 1).trans rfl
             have hcz56_2 : wc.cell? ⟨gb274, 2, none⟩ = some (.int .i64 t269) := (blk_cell BK274.out 2).trans rfl
             have hcz56_3 : wc.cell? ⟨gb274, 3, none⟩ = some (.int .i64 t270) := (blk_cell BK274.out 3).trans rfl
             have hcz56_4 : wc.cell? ⟨gb274, 4, none⟩ = some (.int .i64 t271) := (blk_cell BK274.out 4).trans rfl
             have hcz56_5 : wc.cell? ⟨gb274, 5, none⟩ = some (.int .i64 t272) := (blk_cell BK274.out 5).trans rfl
             have hfz56_0 := blk_frozen BK274.out 0
             have hfz56_1 := blk_frozen BK274.out 1
             have hfz56_2 := blk_frozen BK274.out 2
             have hfz56_3 := blk_frozen BK274.out 3
             have hfz56_4 := blk_frozen BK274.out 4
             have hfz56_5 := blk_frozen BK274.out 5
             have hnb57 := NB282_241.out
             have hnc57 := NB241_282.out
             have hcz58_0 : wc.cell? ⟨gb282, 0, none⟩ = some (.int .i64 t275) := (blk_cell BK282.out 0).trans rfl
             have hcz58_1 : wc.cell? ⟨gb282, 1, none⟩ = some (.int .i64 t276) := (blk_cell BK282.out 1).trans rfl
             have hcz58_2 : wc.cell? ⟨gb282, 2, none⟩ = some (.int .i64 t277) := (blk_cell BK282.out 2).trans rfl
             have hcz58_3 : wc.cell? ⟨gb282, 3, none⟩ = some (.int .i64 t278) := (blk_cell BK282.out 3).trans rfl
             have hcz58_4 : wc.cell? ⟨gb282, 4, none⟩ = some (.int .i64 t279) := (blk_cell BK282.out 4).trans rfl
             have hcz58_5 : wc.cell? ⟨gb282, 5, none⟩ = some (.int .i64 t280) := (blk_cell BK282.out 5).trans rfl
             have hfz58_0 := blk_frozen BK282.out 0
             have hfz58_1 := blk_frozen BK282.out 1
             have hfz58_2 := blk_frozen BK282.out 2
             have hfz58_3 := blk_frozen BK282.out 3
             have hfz58_4 := blk_frozen BK282.out 4
             have hfz58_5 := blk_frozen BK282.out 5
             go_wp2
             go_meet
             case rel => exact ⟨_, (true), (by first | rfl | (simp; done) | (simp [*]; done)), H', ⟨by have := HK1.out; have := HJ5.out; have := HK3.out; have := HJ29.out; first | omega | exact Nat.le_refl _⟩, ⟨by (with_reducible repeat (first | apply Kd.R_alloc | apply Kd.R_drewN | apply Kd.R_drew)); exact HO_6.out⟩, ⟨by (with_reducible repeat (first | apply Kd.V_alloc | apply Kd.V_drewN | apply Kd.V_drew)); exact HO_12.out⟩, ⟨by (with_reducible repeat (first | apply Kd.V_alloc | apply Kd.V_drewN | apply Kd.V_drew)); exact HO_13.out⟩, ⟨by (with_reducible repeat (first | refine blk_drewN ?_ _ | refine blk_drew ?_ | refine blk_alloc ?_ _)); exact BK241.out⟩, ⟨by (with_reducible repeat (first | refine blk_drewN ?_ _ | refine blk_drew ?_ | refine blk_alloc ?_ _)); exact BK274.out⟩, ⟨by (with_reducible repeat (first | refine blk_drewN ?_ _ | refine blk_drew ?_ | refine blk_alloc ?_ _)); exact BK282.out⟩, ⟨by repeat (first | (with_reducible first | exact HB.out | apply below_alloc | apply pw_below_drewN | apply below_drew1 | refine below_set ?_ GE241.out | refine below_set ?_ GE274.out | refine below_set ?_ GE282.out) | exact HB.out)⟩⟩
           rw [if_pos c48] at H
           have c48b0 : (t270 == t278) = true := beq_iff_eq.mpr c48
           have c48b1 : (t270 != t278) = false := bne_eq_false_iff_eq.mpr c48
           clear c48
           have H' := Aside0.mk H
           clear H
           have hnb49 := NB274_241.out
           have hnc49 := NB241_274.out
           have hnb50 := NB274_282.out
           have hnc50 := NB282_274.out
           have hcz51_0 : wc.cell? ⟨gb274, 0, none⟩ = some (.int .i64 t267) := (blk_cell BK274.out 0).trans rfl
           have hcz51_1 : wc.cell? ⟨gb274, 1, none⟩ = some (.int .i64 t268) := (blk_cell BK274.out 1).trans rfl
           have hcz51_2 : wc.cell? ⟨gb274, 2, none⟩ = some (.int .i64 t269) := (blk_cell BK274.out 2).trans rfl
           have hcz51_3 : wc.cell? ⟨gb274, 3, none⟩ = some (.int .i64 t270) := (blk_cell BK274.out 3).trans rfl
           have hcz51_4 : wc.cell? ⟨gb274, 4, none⟩ = some (.int .i64 t271) := (blk_cell BK274.out 4).trans rfl
           have hcz51_5 : wc.cell? ⟨gb274, 5, none⟩ = some (.int .i64 t272) := (blk_cell BK274.out 5).trans rfl
           have hfz51_0 := blk_frozen BK274.out 0
           have hfz51_1 := blk_frozen BK274.out 1
           have hfz51_2 := blk_frozen BK274.out 2
           have hfz51_3 := blk_frozen BK274.out 3
           have hfz51_4 := blk_frozen BK274.out 4
           have hfz51_5 := blk_frozen BK274.out 5
           have hnb52 := NB282_241.out
           have hnc52 := NB241_282.out
           have hcz53_0 : wc.cell? ⟨gb282, 0, none⟩ = some (.int .i64 t275) := (blk_cell BK282.out 0).trans rfl
           have hcz53_1 : wc.cell? ⟨gb282, 1, none⟩ = some (.int .i64 t276) := (blk_cell BK282.out 1).trans rfl
           have hcz53_2 : wc.cell? ⟨gb282, 2, none⟩ = some (.int .i64 t277) := (blk_cell BK282.out 2).trans rfl
           have hcz53_3 : wc.cell? ⟨gb282, 3, none⟩ = some (.int .i64 t278) := (blk_cell BK282.out 3).trans rfl
           have hcz53_4 : wc.cell? ⟨gb282, 4, none⟩ = some (.int .i64 t279) := (blk_cell BK282.out 4).trans rfl
           have hcz53_5 : wc.cell? ⟨gb282, 5, none⟩ = some (.int .i64 t280) := (blk_cell BK282.out 5).trans rfl
           have hfz53_0 := blk_frozen BK282.out 0
           have hfz53_1 := blk_frozen BK282.out 1
           have hfz53_2 := blk_frozen BK282.out 2
           have hfz53_3 := blk_frozen BK282.out 3
           have hfz53_4 := blk_frozen BK282.out 4
           have hfz53_5 := blk_frozen BK282.out 5
           go_wp2
           go_meet
           case rel => exact ⟨_, ((t271 != t279)), (by first | rfl | (simp; done) | (simp [*]; done)), H', ⟨by have := HK1.out; have := HJ5.out; have := HK3.out; have := HJ29.out; first | omega | exact Nat.le_refl _⟩, ⟨by (with_reducible repeat (first | apply Kd.R_alloc | apply Kd.R_drewN | apply Kd.R_drew)); exact HO_6.out⟩, ⟨by (with_reducible repeat (first | apply Kd.V_alloc | apply Kd.V_drewN | apply Kd.V_drew)); exact HO_12.out⟩, ⟨by (with_reducible repeat (first | apply Kd.V_alloc | apply Kd.V_drewN | apply Kd.V_drew)); exact HO_13.out⟩, ⟨by (with_reducible repeat (first | refine blk_drewN ?_ _ | refine blk_drew ?_ | refine blk_alloc ?_ _)); exact BK241.out⟩, ⟨by (with_reducible repeat (first | refine blk_drewN ?_ _ | refine blk_drew ?_ | refine blk_alloc ?_ _)); exact BK274.out⟩, ⟨by (with_reducible repeat (first | refine blk_drewN ?_ _ | refine blk_drew ?_ | refine blk_alloc ?_ _)); exact BK282.out⟩, ⟨by repeat (first | (with_reducible first | exact HB.out | apply below_alloc | apply pw_below_drewN | apply below_drew1 | refine below_set ?_ GE241.out | refine below_set ?_ GE274.out | refine below_set ?_ GE282.out) | exact HB.out)⟩⟩
         case rest =>
          clear HC42
          try clear c1
          try clear c2
          try clear p2
          try clear q2
          try clear hx2
          try clear c3
          try clear c4
          try clear c5
          try clear c6
          try clear p6
          try clear c7
          try clear c7b0
          try clear c8
          try clear c9
          try clear c9b0
          try clear c10
          try clear c10b0
          try clear c13
          try clear c13b0
          try clear c13b1
          try clear c23
          try clear p24
          try clear q24
          try clear hx24
          try clear c27
          try clear c27b0
          try clear c33
          try clear c34
          try clear c35
          try clear c36
          try clear c37
          try clear c38
          try clear c39
          try clear c41
          try clear c41b0
          try clear c43
          try clear c44
          try clear c45
          try clear c45b0
          try clear c45b1
          try clear c45b2
          try clear c46
          try clear c47
          try clear c47b0
          try clear c47b1
          try clear c48
          try clear c48b0
          try clear c48b1
          try clear c49
          try clear c50
          try clear c52
          try clear c54
          try clear c55
          try clear c57
          try clear c59
          try clear c60
          try clear c62
          try clear hcz22_0
          try clear hcz22_1
          try clear hcz22_2
          try clear hcz25_0
          try clear hcz25_1
          try clear hcz25_2
          try clear hcz34_0
          try clear hcz34_1
          try clear hcz34_2
          try clear hcz34_3
          try clear hcz34_4
          try clear hcz34_5
          try clear hcz40_0
          try clear hcz40_1
          try clear hcz40_2
          try clear hcz40_3
          try clear hcz40_4
          try clear hcz40_5
          try clear hcz51_0
          try clear hcz51_1
          try clear hcz51_2
          try clear hcz51_3
          try clear hcz51_4
          try clear hcz51_5
          try clear hcz53_0
          try clear hcz53_1
          try clear hcz53_2
          try clear hcz53_3
          try clear hcz53_4
          try clear hcz53_5
          try clear hcz56_0
          try clear hcz56_1
          try clear hcz56_2
          try clear hcz56_3
          try clear hcz56_4
          try clear hcz56_5
          try clear hcz58_0
          try clear hcz58_1
          try clear hcz58_2
          try clear hcz58_3
          try clear hcz58_4
          try clear hcz58_5
          try clear hcz61_0
          try clear hcz61_1
          try clear hcz61_2
          try clear hcz61_3
          try clear hcz61_4
          try clear hcz61_5
          try clear hcz63_0
          try clear hcz63_1
          try clear hcz63_2
          try clear hcz63_3
          try clear hcz63_4
          try clear hcz63_5
          try clear hfz22_0
          try clear hfz22_1
          try clear hfz22_2
          try clear hfz25_0
          try clear hfz25_1
          try clear hfz25_2
          try clear hfz34_0
          try clear hfz34_1
          try clear hfz34_2
          try clear hfz34_3
          try clear hfz34_4
          try clear hfz34_5
          try clear hfz40_0
          try clear hfz40_1
          try clear hfz40_2
          try clear hfz40_3
          try clear hfz40_4
          try clear hfz40_5
          try clear hfz51_0
          try clear hfz51_1
          try clear hfz51_2
          try clear hfz51_3
          try clear hfz51_4
          try clear hfz51_5
          try clear hfz53_0
          try clear hfz53_1
          try clear hfz53_2
          try clear hfz53_3
          try clear hfz53_4
          try clear hfz53_5
          try clear hfz56_0
          try clear hfz56_1
          try clear hfz56_2
          try clear hfz56_3
          try clear hfz56_4
          try clear hfz56_5
          try clear hfz58_0
          try clear hfz58_1
          try clear hfz58_2
          try clear hfz58_3
          try clear hfz58_4
          try clear hfz58_5
          try clear hfz61_0
          try clear hfz61_1
          try clear hfz61_2
          try clear hfz61_3
          try clear hfz61_4
          try clear hfz61_5
          try clear hfz63_0
          try clear hfz63_1
          try clear hfz63_2
          try clear hfz63_3
          try clear hfz63_4
          try clear hfz63_5
          try clear hx243_0
          try clear hx243_1
          try clear hx243_10
          try clear hx243_2
          try clear hx243_3
          try clear hx243_4
          try clear hx243_5
          try clear hx243_6
          try clear hx243_7
          try clear hx243_8
          try clear hx243_9
          try clear p2
          try clear p24
          try clear p243
          try clear p6
          try clear q2
          try clear q24
          try clear q243
          obtain ⟨kq, x134_41, rfl, HA, HJ41, HO_6, HO_12, HO_13, BK241, BK274, BK282, HB⟩ := hcut
          cases kq with
          | zero => exact absurd HA.out (by simp [flyleaflaw15_RegionKeeps.j4])
          | succ kj41 =>
           have H := HA.out
           clear HA
           simp only [flyleaflaw15_RegionKeeps.j4] at H
           by_cases c64 : x134_41 = true
           · subst c64
             have H1 : (some false) = some r := by rw [if_pos rfl] at H; exact H
             clear H
             have H := H1
             clear H1
             obtain rfl := Option.some.inj H
             go_wp2
             go_ret
             exact ⟨by first | rfl | (simp [errW_none, errW_some] <;> rfl) | (simp [*, errW_none, errW_some] <;> rfl), by repeat (first | (with_reducible first | exact HB.out | apply below_alloc | apply pw_below_drewN | apply below_drew1 | refine below_set ?_ GE241.out | refine below_set ?_ GE274.out | refine below_set ?_ GE282.out) | exact HB.out)⟩
           replace c64 := Bool.eq_false_iff.mpr c64
           subst c64
           have H1 : ((region_Key.f t267 t268 t269 t270 t271 t272 x15_3).bind fun bt283 => ((region_Key.f t275 t276 t277 t278 t279 t280 x15_3).bind fun bt287 => (if x20_29 = true then (flyleaflaw15_RegionKeeps.j5 kj41 t242 x6_1 (Go.bits .and .i64 a1_0 63) (Go.bits .and .i64 a1_1 63) t259 t262 t265 x15_3 t273 x20_29 bt283.2.2 false a1_0 a1_1 a1_2 t267 t268 t269 t270 t271 t272 bt283.1 bt283.2.1) else (if (!(bt283.1 == bt287.1) || (!(bt283.2.1 == bt287.2.1))) = true then (flyleaflaw15_RegionKeeps.j5 kj41 t242 x6_1 (Go.bits .and .i64 a1_0 63) (Go.bits .and .i64 a1_1 63) t259 t262 t265 x15_3 t273 x20_29 bt283.2.2 true a1_0 a1_1 a1_2 t267 t268 t269 t270 t271 t272 bt283.1 bt283.2.1) else (flyleaflaw15_RegionKeeps.j5 kj41 t242 x6_1 (Go.bits .and .i64 a1_0 63) (Go.bits .and .i64 a1_1 63) t259 t262 t265 x15_3 t273 x20_29 bt283.2.2 (bt283.2.2 != bt287.2.2) a1_0 a1_1 a1_2 t267 t268 t269 t270 t271 t272 bt283.1 bt283.2.1))))) = some r := by rw [if_neg (show ¬ (false = true) by decide)] at H; exact H
           clear H
           have H := H1
           clear H1
           replace H := Option.bind_eq_some_iff.mp H
           obtain ⟨⟨t283, t284, t285⟩, A650, H⟩ := H
           replace H : ((region_Key.f t275 t276 t277 t278 t279 t280 x15_3).bind fun bt287 => (if x20_29 = true then (flyleaflaw15_RegionKeeps.j5 kj41 t242 x6_1 (Go.bits .and .i64 a1_0 63) (Go.bits .and .i64 a1_1 63) t259 t262 t265 x15_3 t273 x20_29 t285 false a1_0 a1_1 a1_2 t267 t268 t269 t270 t271 t272 t283 t284) else (if (!(t283 == bt287.1) || (!(t284 == bt287.2.1))) = true then (flyleaflaw15_RegionKeeps.j5 kj41 t242 x6_1 (Go.bits .and .i64 a1_0 63) (Go.bits .and .i64 a1_1 63) t259 t262 t265 x15_3 t273 x20_29 t285 true a1_0 a1_1 a1_2 t267 t268 t269 t270 t271 t272 t283 t284) else (flyleaflaw15_RegionKeeps.j5 kj41 t242 x6_1 (Go.bits .and .i64 a1_0 63) (Go.bits .and .i64 a1_1 63) t259 t262 t265 x15_3 t273 x20_29 t285 (t285 != bt287.2.2) a1_0 a1_1 a1_2 t267 t268 t269 t270 t271 t272 t283 t284)))) = some r := H
           have A65 := Aside0.mk A650
           clear A650
           replace H := Option.bind_eq_some_iff.mp H
           obtain ⟨⟨t287, t288, t289⟩, A660, H⟩ := H
           replace H : (if x20_29 = true then (flyleaflaw15_RegionKeeps.j5 kj41 t242 x6_1 (Go.bits .and .i64 a1_0 63) (Go.bits .and .i64 a1_1 63) t259 t262 t265 x15_3 t273 x20_29 t285 false a1_0 a1_1 a1_2 t267 t268 t269 t270 t271 t272 t283 t284) else (if (!(t283 == t287) || (!(t284 == t288))) = true then (flyleaflaw15_RegionKeeps.j5 kj41 t242 x6_1 (Go.bits .and .i64 a1_0 63) (Go.bits .and .i64 a1_1 63) t259 t262 t265 x15_3 t273 x20_29 t285 true a1_0 a1_1 a1_2 t267 t268 t269 t270 t271 t272 t283 t284) else (flyleaflaw15_RegionKeeps.j5 kj41 t242 x6_1 (Go.bits .and .i64 a1_0 63) (Go.bits .and .i64 a1_1 63) t259 t262 t265 x15_3 t273 x20_29 t285 (t285 != t289) a1_0 a1_1 a1_2 t267 t268 t269 t270 t271 t272 t283 t284))) = some r := H
           have A66 := Aside0.mk A660
           clear A660
           have HC67 := Aside0.mk H
           clear H
           have hnb68 := NB274_241.out
           have hnc68 := NB241_274.out
           have hnb69 := NB274_282.out
           have hnc69 := NB282_274.out
           have hcz70_0 : wc.cell? ⟨gb274, 0, none⟩ = some (.int .i64 t267) := (blk_cell BK274.out 0).trans rfl
           have hcz70_1 : wc.cell? ⟨gb274, 1, none⟩ = some (.int .i64 t268) := (blk_cell BK274.out 1).trans rfl
           have hcz70_2 : wc.cell? ⟨gb274, 2, none⟩ = some (.int .i64 t269) := (blk_cell BK274.out 2).trans rfl
           have hcz70_3 : wc.cell? ⟨gb274, 3, none⟩ = some (.int .i64 t270) := (blk_cell BK274.out 3).trans rfl
           have hcz70_4 : wc.cell? ⟨gb274, 4, none⟩ = some (.int .i64 t271) := (blk_cell BK274.out 4).trans rfl
           have hcz70_5 : wc.cell? ⟨gb274, 5, none⟩ = some (.int .i64 t272) := (blk_cell BK274.out 5).trans rfl
           have hfz70_0 := blk_frozen BK274.out 0
           have hfz70_1 := blk_frozen BK274.out 1
           have hfz70_2 := blk_frozen BK274.out 2
           have hfz70_3 := blk_frozen BK274.out 3
           have hfz70_4 := blk_frozen BK274.out 4
           have hfz70_5 := blk_frozen BK274.out 5
           go_upto_region 23 with (first | ((with_reducible refine gate_callee (f := 38) rfl ?_); refine goesL_ (some 138) rfl rfl Try.func38 (by kernel_rfl) rfl #[.agg #[.int .i64 t267, .int .i64 t268, .int .i64 t269, .int .i64 t270, .int .i64 t271, .int .i64 t272], .int .i64 x15_3] rfl (by (try simp only [List.map_toArray, List.map_cons, List.map_nil]); first | done | rfl | (simp only [List.length_drop, List.length_take]; rfl)) ?_; (with_reducible refine (region_Key.calls t267 t268 t269 t270 t271 t272 x15_3 t283 t284 t285 _ A65.out).mono ?_); rintro e w71 ⟨rfl, hb⟩; refine ⟨_, rfl, ?_⟩; have n0_ := Aside0.mk (Kd.R_below (by (with_reducible repeat (first | apply Kd.R_alloc | apply Kd.R_drewN | apply Kd.R_drew)); exact HO_6.out) hb); have n1_ := Aside0.mk (Kd.V_below (by (with_reducible repeat (first | apply Kd.V_alloc | apply Kd.V_drewN | apply Kd.V_drew)); exact HO_12.out) hb); have n2_ := Aside0.mk (Kd.V_below (by (with_reducible repeat (first | apply Kd.V_alloc | apply Kd.V_drewN | apply Kd.V_drew)); exact HO_13.out) hb); have n3_ := Aside0.mk (blk_below (g := gb241) (o := .cells #[.int .i64 a1_0, .int .i64 a1_1, .int .i64 a1_2] 67 (0, 0)) (by (with_reducible repeat (first | refine blk_drewN ?_ _ | refine blk_drew ?_ | refine blk_alloc ?_ _)); exact BK241.out) hb); have n4_ := Aside0.mk (blk_below (g := gb274) (o := .cells #[.int .i64 t267, .int .i64 t268, .int .i64 t269, .int .i64 t270, .int .i64 t271, .int .i64 t272] 41 (0, 0)) (by (with_reducible repeat (first | refine blk_drewN ?_ _ | refine blk_drew ?_ | refine blk_alloc ?_ _)); exact BK274.out) hb); have n5_ := Aside0.mk (blk_below (g := gb282) (o := .cells #[.int .i64 t275, .int .i64 t276, .int .i64 t277, .int .i64 t278, .int .i64 t279, .int .i64 t280] 41 (0, 0)) (by (with_reducible repeat (first | refine blk_drewN ?_ _ | refine blk_drew ?_ | refine blk_alloc ?_ _)); exact BK282.out) hb); have n6_ := Aside0.mk (below_step (by repeat (first | (with_reducible first | exact HB.out | apply below_alloc | apply pw_below_drewN | apply below_drew1 | refine below_set ?_ GE241.out | refine below_set ?_ GE274.out | refine below_set ?_ GE282.out) | exact HB.out)) hb); clear HO_6; clear HO_12; clear HO_13; clear BK241; clear BK274; clear BK282; clear HB; have HO_6 := n0_; have HO_12 := n1_; have HO_13 := n2_; have BK241 := n3_; have BK274 := n4_; have BK282 := n5_; have HB := n6_; clear n0_ n1_ n2_ n3_ n4_ n5_ n6_; (try clear hb); (try clear hb2); (try clear hk); (try clear hi)) | ((with_reducible refine gate_dst (N := 21) rfl ?_); refine box_event ?hg (N := 21) ?hd (cs := #[.int .i64 0, .int .i64 0]) (t := 77) ?hr ?_; (case hd => rfl); (case hg => rfl); (case hr => first | (go_simp; done) | (go_simp; rfl)); intro gb286 hg w72 hbox hb; have n0_ := Aside0.mk (Kd.R_below (by (with_reducible repeat (first | apply Kd.R_alloc | apply Kd.R_drewN | apply Kd.R_drew)); exact HO_6.out) hb); have n1_ := Aside0.mk (Kd.V_below (Kd.V_elderB (by (with_reducible repeat (first | apply Kd.V_alloc | apply Kd.V_drewN | apply Kd.V_drew)); exact HO_12.out) gb286 (Nat.le_of_eq hg.symm)) hb); have n2_ := Aside0.mk (Kd.V_below (Kd.V_elderB (by (with_reducible repeat (first | apply Kd.V_alloc | apply Kd.V_drewN | apply Kd.V_drew)); exact HO_13.out) gb286 (Nat.le_of_eq hg.symm)) hb); have n3_ := Aside0.mk (blk_below (g := gb241) (o := .cells #[.int .i64 a1_0, .int .i64 a1_1, .int .i64 a1_2] 67 (0, 0)) (by (with_reducible repeat (first | refine blk_drewN ?_ _ | refine blk_drew ?_ | refine blk_alloc ?_ _)); exact BK241.out) hb); have n4_ := Aside0.mk (blk_below (g := gb274) (o := .cells #[.int .i64 t267, .int .i64 t268, .int .i64 t269, .int .i64 t270, .int .i64 t271, .int .i64 t272] 41 (0, 0)) (by (with_reducible repeat (first | refine blk_drewN ?_ _ | refine blk_drew ?_ | refine blk_alloc ?_ _)); exact BK274.out) hb); have n5_ := Aside0.mk (blk_below (g := gb282) (o := .cells #[.int .i64 t275, .int .i64 t276, .int .i64 t277, .int .i64 t278, .int .i64 t279, .int .i64 t280] 41 (0, 0)) (by (with_reducible repeat (first | refine blk_drewN ?_ _ | refine blk_drew ?_ | refine blk_alloc ?_ _)); exact BK282.out) hb); have n6_ := Aside0.mk (below_step (by repeat (first | (with_reducible first | exact HB.out | apply below_alloc | apply pw_below_drewN | apply below_drew1 | refine below_set ?_ GE241.out | refine below_set ?_ GE274.out | refine below_set ?_ GE282.out) | exact HB.out)) hb); have n7_ := Aside0.mk (hbox); have n8_ := Aside0.mk ((by rw [hg]; exact (below_size (by repeat (first | (with_reducible first | exact HB.out | apply below_alloc | apply pw_below_drewN | apply below_drew1 | refine below_set ?_ GE241.out | refine below_set ?_ GE274.out | refine below_set ?_ GE282.out) | exact HB.out))) : w.heap.size ≤ gb286)); have n9_ := Aside0.mk ((by rw [hg]; exact (below_size (by repeat (first | (with_reducible first | exact HB.out | apply below_alloc | apply pw_below_drewN | apply below_drew1 | refine below_set ?_ GE241.out | refine below_set ?_ GE274.out | refine below_set ?_ GE282.out) | exact HB.out))) : w.heap.size ≤ gb286)); have n10_ := Aside0.mk ((by rw [hg]; exact Nat.ne_of_lt (blk_lt (g := gb241) (o := .cells #[.int .i64 a1_0, .int .i64 a1_1, .int .i64 a1_2] 67 (0, 0)) (by (with_reducible repeat (first | refine blk_drewN ?_ _ | refine blk_drew ?_ | refine blk_alloc ?_ _)); exact BK241.out)) : gb241 ≠ gb286)); have n11_ := Aside0.mk ((by rw [hg]; exact Nat.ne_of_gt (blk_lt (g := gb241) (o := .cells #[.int .i64 a1_0, .int .i64 a1_1, .int .i64 a1_2] 67 (0, 0)) (by (with_reducible repeat (first | refine blk_drewN ?_ _ | refine blk_drew ?_ | refine blk_alloc ?_ _)); exact BK241.out)) : gb286 ≠ gb241)); have n12_ := Aside0.mk ((by rw [hg]; exact Nat.ne_of_lt (blk_lt (g := gb274) (o := .cells #[.int .i64 t267, .int .i64 t268, .int .i64 t269, .int .i64 t270, .int .i64 t271, .int .i64 t272] 41 (0, 0)) (by (with_reducible repeat (first | refine blk_drewN ?_ _ | refine blk_drew ?_ | refine blk_alloc ?_ _)); exact BK274.out)) : gb274 ≠ gb286)); have n13_ := Aside0.mk ((by rw [hg]; exact Nat.ne_of_gt (blk_lt (g := gb274) (o := .cells #[.int .i64 t267, .int .i64 t268, .int .i64 t269, .int .i64 t270, .int .i64 t271, .int .i64 t272] 41 (0, 0)) (by (with_reducible repeat (first | refine blk_drewN ?_ _ | refine blk_drew ?_ | refine blk_alloc ?_ _)); exact BK274.out)) : gb286 ≠ gb274)); have n14_ := Aside0.mk ((by rw [hg]; exact Nat.ne_of_lt (blk_lt (g := gb282) (o := .cells #[.int .i64 t275, .int .i64 t276, .int .i64 t277, .int .i64 t278, .int .i64 t279, .int .i64 t280] 41 (0, 0)) (by (with_reducible repeat (first | refine blk_drewN ?_ _ | refine blk_drew ?_ | refine blk_alloc ?_ _)); exact BK282.out)) : gb282 ≠ gb286)); have n15_ := Aside0.mk ((by rw [hg]; exact Nat.ne_of_gt (blk_lt (g := gb282) (o := .cells #[.int .i64 t275, .int .i64 t276, .int .i64 t277, .int .i64 t278, .int .i64 t279, .int .i64 t280] 41 (0, 0)) (by (with_reducible repeat (first | refine blk_drewN ?_ _ | refine blk_drew ?_ | refine blk_alloc ?_ _)); exact BK282.out)) : gb286 ≠ gb282)); clear HO_6; clear HO_12; clear HO_13; clear BK241; clear BK274; clear BK282; clear HB; have HO_6 := n0_; have HO_12 := n1_; have HO_13 := n2_; have BK241 := n3_; have BK274 := n4_; have BK282 := n5_; have HB := n6_; have BK286 := n7_; have GW286 := n8_; have GE286 := n9_; have NB241_286 := n10_; have NB286_241 := n11_; have NB274_286 := n12_; have NB286_274 := n13_; have NB282_286 := n14_; have NB286_282 := n15_; clear n0_ n1_ n2_ n3_ n4_ n5_ n6_ n7_ n8_ n9_ n10_ n11_ n12_ n13_ n14_ n15_; clear hb hbox hg; have hnb73 := NB286_241.out; have hnc73 := NB241_286.out; have hnb74 := NB286_274.out; have hnc74 := NB274_286.out; have hnb75 := NB286_282.out; have hnc75 := NB282_286.out; have hcz76_0 : w72.cell? ⟨gb286, 0, none⟩ = some (.int .i64 0) := (blk_cell BK286.out 0).trans rfl; have hcz76_1 : w72.cell? ⟨gb286, 1, none⟩ = some (.int .i64 0) := (blk_cell BK286.out 1).trans rfl; have hfz76_0 := blk_frozen BK286.out 0; have hfz76_1 := blk_frozen BK286.out 1; have hnb77 := NB282_241.out; have hnc77 := NB241_282.out; have hcz78_0 : w72.cell? ⟨gb282, 0, none⟩ = some (.int .i64 t275) := (blk_cell BK282.out 0).trans rfl; have hcz78_1 : w72.cell? ⟨gb282, 1, none⟩ = some (.int .i64 t276) := (blk_cell BK282.out 1).trans rfl; have hcz78_2 : w72.cell? ⟨gb282, 2, none⟩ = some (.int .i64 t277) := (blk_cell BK282.out 2).trans rfl; have hcz78_3 : w72.cell? ⟨gb282, 3, none⟩ = some (.int .i64 t278) := (blk_cell BK282.out 3).trans rfl; have hcz78_4 : w72.cell? ⟨gb282, 4, none⟩ = some (.int .i64 t279) := (blk_cell BK282.out 4).trans rfl; have hcz78_5 : w72.cell? ⟨gb282, 5, none⟩ = some (.int .i64 t280) := (blk_cell BK282.out 5).trans rfl; have hfz78_0 := blk_frozen BK282.out 0; have hfz78_1 := blk_frozen BK282.out 1; have hfz78_2 := blk_frozen BK282.out 2; have hfz78_3 := blk_frozen BK282.out 3; have hfz78_4 := blk_frozen BK282.out 4; have hfz78_5 := blk_frozen BK282.out 5) | ((with_reducible refine gate_callee (f := 38) rfl ?_); refine goesL_ (some 144) rfl rfl Try.func38 (by kernel_rfl) rfl #[.agg #[.int .i64 t275, .int .i64 t276, .int .i64 t277, .int .i64 t278, .int .i64 t279, .int .i64 t280], .int .i64 x15_3] rfl (by (try simp only [List.map_toArray, List.map_cons, List.map_nil]); first | done | rfl | (simp only [List.length_drop, List.length_take]; rfl)) ?_; (with_reducible refine (region_Key.calls t275 t276 t277 t278 t279 t280 x15_3 t287 t288 t289 _ A66.out).mono ?_); rintro e w79 ⟨rfl, hb⟩; refine ⟨_, rfl, ?_⟩; have n0_ := Aside0.mk (Kd.R_below (by (with_reducible repeat (first | apply Kd.R_alloc | apply Kd.R_drewN | apply Kd.R_drew)); exact (Kd.R_mono (Kd.R_far (p := ⟨gb286, 1, none⟩) (Kd.R_far (p := ⟨gb286, 0, none⟩) (Kd.R_types HO_6.out BK286.out (by decide)) (fun _ hk => hk.2) (.int .i64 t283)) (fun _ hk => hk.2) (.int .i64 t284)) (fun _ h_ => h_.1))) hb); have n1_ := Aside0.mk (Kd.V_below (by (with_reducible repeat (first | apply Kd.V_alloc | apply Kd.V_drewN | apply Kd.V_drew)); exact (Kd.V_mono (Kd.V_far (p := ⟨gb286, 1, none⟩) (Kd.V_far (p := ⟨gb286, 0, none⟩) (Kd.V_mono HO_12.out (fun k_ hk => (⟨hk, hk.2⟩ : _ ∧ k_ ≠ gb286))) (fun _ hk => hk.2) (.int .i64 t283)) (fun _ hk => hk.2) (.int .i64 t284)) (fun _ h_ => h_.1))) hb); have n2_ := Aside0.mk (Kd.V_below (by (with_reducible repeat (first | apply Kd.V_alloc | apply Kd.V_drewN | apply Kd.V_drew)); exact (Kd.V_mono (Kd.V_far (p := ⟨gb286, 1, none⟩) (Kd.V_far (p := ⟨gb286, 0, none⟩) (Kd.V_mono HO_13.out (fun k_ hk => (⟨hk, hk.2⟩ : _ ∧ k_ ≠ gb286))) (fun _ hk => hk.2) (.int .i64 t283)) (fun _ hk => hk.2) (.int .i64 t284)) (fun _ h_ => h_.1))) hb); have n3_ := Aside0.mk (blk_below (g := gb241) (o := .cells #[.int .i64 a1_0, .int .i64 a1_1, .int .i64 a1_2] 67 (0, 0)) (by (with_reducible repeat (first | refine blk_drewN ?_ _ | refine blk_drew ?_ | refine blk_alloc ?_ _)); refine blk_far ?_ NB241_286.out _; (with_reducible repeat (first | refine blk_drewN ?_ _ | refine blk_drew ?_ | refine blk_alloc ?_ _)); refine blk_far ?_ NB241_286.out _; (with_reducible repeat (first | refine blk_drewN ?_ _ | refine blk_drew ?_ | refine blk_alloc ?_ _)); exact BK241.out) hb); have n4_ := Aside0.mk (blk_below (g := gb274) (o := .cells #[.int .i64 t267, .int .i64 t268, .int .i64 t269, .int .i64 t270, .int .i64 t271, .int .i64 t272] 41 (0, 0)) (by (with_reducible repeat (first | refine blk_drewN ?_ _ | refine blk_drew ?_ | refine blk_alloc ?_ _)); refine blk_far ?_ NB274_286.out _; (with_reducible repeat (first | refine blk_drewN ?_ _ | refine blk_drew ?_ | refine blk_alloc ?_ _)); refine blk_far ?_ NB274_286.out _; (with_reducible repeat (first | refine blk_drewN ?_ _ | refine blk_drew ?_ | refine blk_alloc ?_ _)); exact BK274.out) hb); have n5_ := Aside0.mk (blk_below (g := gb282) (o := .cells #[.int .i64 t275, .int .i64 t276, .int .i64 t277, .int .i64 t278, .int .i64 t279, .int .i64 t280] 41 (0, 0)) (by (with_reducible repeat (first | refine blk_drewN ?_ _ | refine blk_drew ?_ | refine blk_alloc ?_ _)); refine blk_far ?_ NB282_286.out _; (with_reducible repeat (first | refine blk_drewN ?_ _ | refine blk_drew ?_ | refine blk_alloc ?_ _)); refine blk_far ?_ NB282_286.out _; (with_reducible repeat (first | refine blk_drewN ?_ _ | refine blk_drew ?_ | refine blk_alloc ?_ _)); exact BK282.out) hb); have n6_ := Aside0.mk (blk_below (g := gb286) (o := .cells #[.int .i64 t283, .int .i64 t284] 77 (0, 0)) (by (with_reducible repeat (first | refine blk_drewN ?_ _ | refine blk_drew ?_ | refine blk_alloc ?_ _)); refine blk_put (cs := #[.int .i64 t283, .int .i64 0]) ?_ 1 _ rfl; (with_reducible repeat (first | refine blk_drewN ?_ _ | refine blk_drew ?_ | refine blk_alloc ?_ _)); refine blk_put (cs := #[.int .i64 0, .int .i64 0]) ?_ 0 _ rfl; (with_reducible repeat (first | refine blk_drewN ?_ _ | refine blk_drew ?_ | refine blk_alloc ?_ _)); exact BK286.out) hb); have n7_ := Aside0.mk (below_step (by repeat (first | (with_reducible first | exact HB.out | apply below_alloc | apply pw_below_drewN | apply below_drew1 | refine below_set ?_ GE241.out | refine below_set ?_ GE274.out | refine below_set ?_ GE282.out | refine below_set ?_ GE286.out) | exact HB.out)) hb); clear HO_6; clear HO_12; clear HO_13; clear BK241; clear BK274; clear BK282; clear BK286; clear HB; have HO_6 := n0_; have HO_12 := n1_; have HO_13 := n2_; have BK241 := n3_; have BK274 := n4_; have BK282 := n5_; have BK286 := n6_; have HB := n7_; clear n0_ n1_ n2_ n3_ n4_ n5_ n6_ n7_; (try clear hb); (try clear hb2); (try clear hk); (try clear hi)) | ((with_reducible refine gate_dst (N := 23) rfl ?_); refine box_event ?hg (N := 23) ?hd (cs := #[.int .i64 0, .int .i64 0]) (t := 77) ?hr ?_; (case hd => rfl); (case hg => rfl); (case hr => first | (go_simp; done) | (go_simp; rfl)); intro gb290 hg w80 hbox hb; have n0_ := Aside0.mk (Kd.R_below (by (with_reducible repeat (first | apply Kd.R_alloc | apply Kd.R_drewN | apply Kd.R_drew)); exact HO_6.out) hb); have n1_ := Aside0.mk (Kd.V_below (Kd.V_elderB (by (with_reducible repeat (first | apply Kd.V_alloc | apply Kd.V_drewN | apply Kd.V_drew)); exact HO_12.out) gb290 (Nat.le_of_eq hg.symm)) hb); have n2_ := Aside0.mk (Kd.V_below (Kd.V_elderB (by (with_reducible repeat (first | apply Kd.V_alloc | apply Kd.V_drewN | apply Kd.V_drew)); exact HO_13.out) gb290 (Nat.le_of_eq hg.symm)) hb); have n3_ := Aside0.mk (blk_below (g := gb241) (o := .cells #[.int .i64 a1_0, .int .i64 a1_1, .int .i64 a1_2] 67 (0, 0)) (by (with_reducible repeat (first | refine blk_drewN ?_ _ | refine blk_drew ?_ | refine blk_alloc ?_ _)); exact BK241.out) hb); have n4_ := Aside0.mk (blk_below (g := gb274) (o := .cells #[.int .i64 t267, .int .i64 t268, .int .i64 t269, .int .i64 t270, .int .i64 t271, .int .i64 t272] 41 (0, 0)) (by (with_reducible repeat (first | refine blk_drewN ?_ _ | refine blk_drew ?_ | refine blk_alloc ?_ _)); exact BK274.out) hb); have n5_ := Aside0.mk (blk_below (g := gb282) (o := .cells #[.int .i64 t275, .int .i64 t276, .int .i64 t277, .int .i64 t278, .int .i64 t279, .int .i64 t280] 41 (0, 0)) (by (with_reducible repeat (first | refine blk_drewN ?_ _ | refine blk_drew ?_ | refine blk_alloc ?_ _)); exact BK282.out) hb); have n6_ := Aside0.mk (blk_below (g := gb286) (o := .cells #[.int .i64 t283, .int .i64 t284] 77 (0, 0)) (by (with_reducible repeat (first | refine blk_drewN ?_ _ | refine blk_drew ?_ | refine blk_alloc ?_ _)); exact BK286.out) hb); have n7_ := Aside0.mk (below_step (by repeat (first | (with_reducible first | exact HB.out | apply below_alloc | apply pw_below_drewN | apply below_drew1 | refine below_set ?_ GE241.out | refine below_set ?_ GE274.out | refine below_set ?_ GE282.out | refine below_set ?_ GE286.out) | exact HB.out)) hb); have n8_ := Aside0.mk (hbox); have n9_ := Aside0.mk ((by rw [hg]; exact (below_size (by repeat (first | (with_reducible first | exact HB.out | apply below_alloc | apply pw_below_drewN | apply below_drew1 | refine below_set ?_ GE241.out | refine below_set ?_ GE274.out | refine below_set ?_ GE282.out | refine below_set ?_ GE286.out) | exact HB.out))) : w.heap.size ≤ gb290)); have n10_ := Aside0.mk ((by rw [hg]; exact (below_size (by repeat (first | (with_reducible first | exact HB.out | apply below_alloc | apply pw_below_drewN | apply below_drew1 | refine below_set ?_ GE241.out | refine below_set ?_ GE274.out | refine below_set ?_ GE282.out | refine below_set ?_ GE286.out) | exact HB.out))) : w.heap.size ≤ gb290)); have n11_ := Aside0.mk ((by rw [hg]; exact Nat.ne_of_lt (blk_lt (g := gb241) (o := .cells #[.int .i64 a1_0, .int .i64 a1_1, .int .i64 a1_2] 67 (0, 0)) (by (with_reducible repeat (first | refine blk_drewN ?_ _ | refine blk_drew ?_ | refine blk_alloc ?_ _)); exact BK241.out)) : gb241 ≠ gb290)); have n12_ := Aside0.mk ((by rw [hg]; exact Nat.ne_of_gt (blk_lt (g := gb241) (o := .cells #[.int .i64 a1_0, .int .i64 a1_1, .int .i64 a1_2] 67 (0, 0)) (by (with_reducible repeat (first | refine blk_drewN ?_ _ | refine blk_drew ?_ | refine blk_alloc ?_ _)); exact BK241.out)) : gb290 ≠ gb241)); have n13_ := Aside0.mk ((by rw [hg]; exact Nat.ne_of_lt (blk_lt (g := gb274) (o := .cells #[.int .i64 t267, .int .i64 t268, .int .i64 t269, .int .i64 t270, .int .i64 t271, .int .i64 t272] 41 (0, 0)) (by (with_reducible repeat (first | refine blk_drewN ?_ _ | refine blk_drew ?_ | refine blk_alloc ?_ _)); exact BK274.out)) : gb274 ≠ gb290)); have n14_ := Aside0.mk ((by rw [hg]; exact Nat.ne_of_gt (blk_lt (g := gb274) (o := .cells #[.int .i64 t267, .int .i64 t268, .int .i64 t269, .int .i64 t270, .int .i64 t271, .int .i64 t272] 41 (0, 0)) (by (with_reducible repeat (first | refine blk_drewN ?_ _ | refine blk_drew ?_ | refine blk_alloc ?_ _)); exact BK274.out)) : gb290 ≠ gb274)); have n15_ := Aside0.mk ((by rw [hg]; exact Nat.ne_of_lt (blk_lt (g := gb282) (o := .cells #[.int .i64 t275, .int .i64 t276, .int .i64 t277, .int .i64 t278, .int .i64 t279, .int .i64 t280] 41 (0, 0)) (by (with_reducible repeat (first | refine blk_drewN ?_ _ | refine blk_drew ?_ | refine blk_alloc ?_ _)); exact BK282.out)) : gb282 ≠ gb290)); have n16_ := Aside0.mk ((by rw [hg]; exact Nat.ne_of_gt (blk_lt (g := gb282) (o := .cells #[.int .i64 t275, .int .i64 t276, .int .i64 t277, .int .i64 t278, .int .i64 t279, .int .i64 t280] 41 (0, 0)) (by (with_reducible repeat (first | refine blk_drewN ?_ _ | refine blk_drew ?_ | refine blk_alloc ?_ _)); exact BK282.out)) : gb290 ≠ gb282)); have n17_ := Aside0.mk ((by rw [hg]; exact Nat.ne_of_lt (blk_lt (g := gb286) (o := .cells #[.int .i64 t283, .int .i64 t284] 77 (0, 0)) (by (with_reducible repeat (first | refine blk_drewN ?_ _ | refine blk_drew ?_ | refine blk_alloc ?_ _)); exact BK286.out)) : gb286 ≠ gb290)); have n18_ := Aside0.mk ((by rw [hg]; exact Nat.ne_of_gt (blk_lt (g := gb286) (o := .cells #[.int .i64 t283, .int .i64 t284] 77 (0, 0)) (by (with_reducible repeat (first | refine blk_drewN ?_ _ | refine blk_drew ?_ | refine blk_alloc ?_ _)); exact BK286.out)) : gb290 ≠ gb286)); clear HO_6; clear HO_12; clear HO_13; clear BK241; clear BK274; clear BK282; clear BK286; clear HB; have HO_6 := n0_; have HO_12 := n1_; have HO_13 := n2_; have BK241 := n3_; have BK274 := n4_; have BK282 := n5_; have BK286 := n6_; have HB := n7_; have BK290 := n8_; have GW290 := n9_; have GE290 := n10_; have NB241_290 := n11_; have NB290_241 := n12_; have NB274_290 := n13_; have NB290_274 := n14_; have NB282_290 := n15_; have NB290_282 := n16_; have NB286_290 := n17_; have NB290_286 := n18_; clear n0_ n1_ n2_ n3_ n4_ n5_ n6_ n7_ n8_ n9_ n10_ n11_ n12_ n13_ n14_ n15_ n16_ n17_ n18_; clear hb hbox hg; have hnb81 := NB290_241.out; have hnc81 := NB241_290.out; have hnb82 := NB290_274.out; have hnc82 := NB274_290.out; have hnb83 := NB290_282.out; have hnc83 := NB282_290.out; have hnb84 := NB290_286.out; have hnc84 := NB286_290.out; have hcz85_0 : w80.cell? ⟨gb290, 0, none⟩ = some (.int .i64 0) := (blk_cell BK290.out 0).trans rfl; have hcz85_1 : w80.cell? ⟨gb290, 1, none⟩ = some (.int .i64 0) := (blk_cell BK290.out 1).trans rfl; have hfz85_0 := blk_frozen BK290.out 0; have hfz85_1 := blk_frozen BK290.out 1))
           (try simp only [Act.put, List.setIfInBounds_toArray, List.set_cons_zero, List.set_cons_succ])
           go_cut [158] (fun v158 wc => ∃ (kq : Nat) (x158_66 : Bool), v158 = .bool x158_66 ∧ Aside0 (flyleaflaw15_RegionKeeps.j5 kq t242 x6_1 (Go.bits .and .i64 a1_0 63) (Go.bits .and .i64 a1_1 63) t259 t262 t265 x15_3 t273 x20_29 t285 x158_66 a1_0 a1_1 a1_2 t267 t268 t269 t270 t271 t272 t283 t284 = some r) ∧ Aside0 (kq ≤ kj41) ∧ Aside0 (Kd.R k41 41 wc w.heap.size (fun k_ => k_ ≠ gb274 ∧ k_ ≠ gb282) (.slice Ao23 x6_1.length co23) x6_1) ∧ Aside0 (Kd.V k41 41 wc w.heap.size (fun k_ => some k_ ≠ ((.slice Ao23 x6_1.length co23) : Value).ownBlock ∧ k_ ≠ gb241 ∧ k_ ≠ gb274 ∧ k_ ≠ gb282 ∧ k_ ≠ gb286 ∧ k_ ≠ gb290) (.slice Ao35 t259.length co35) t259) ∧ Aside0 (Kd.V k41 41 wc w.heap.size (fun k_ => some k_ ≠ ((.slice Ao23 x6_1.length co23) : Value).ownBlock ∧ k_ ≠ gb241 ∧ k_ ≠ gb274 ∧ k_ ≠ gb282 ∧ k_ ≠ gb286 ∧ k_ ≠ gb290) v263 t262) ∧ Aside0 (wc.heap[gb241]? = some (.cells #[.int .i64 a1_0, .int .i64 a1_1, .int .i64 a1_2] 67 (0, 0))) ∧ Aside0 (wc.heap[gb274]? = some (.cells #[.int .i64 t267, .int .i64 t268, .int .i64 t269, .int .i64 t270, .int .i64 t271, .int .i64 t272] 41 (0, 0))) ∧ Aside0 (wc.heap[gb282]? = some (.cells #[.int .i64 t275, .int .i64 t276, .int .i64 t277, .int .i64 t278, .int .i64 t279, .int .i64 t280] 41 (0, 0))) ∧ Aside0 (wc.heap[gb286]? = some (.cells #[.int .i64 t283, .int .i64 t284] 77 (0, 0))) ∧ Aside0 (wc.heap[gb290]? = some (.cells #[.int .i64 t287, .int .i64 t288] 77 (0, 0))) ∧ Aside0 (Below w.heap.size w wc))
           case first =>
            as_aux_lemma =>
             have H := HC67.out
             clear HC67
             by_cases c86 : x20_29 = true
             · subst c86
               have H1 : (flyleaflaw15_RegionKeeps.j5 kj41 t242 x6_1 (Go.bits .and .i64 a1_0 63) (Go.bits .and .i64 a1_1 63) t259 t262 t265 x15_3 t273 true t285 false a1_0 a1_1 a1_2 t267 t268 t269 t270 t271 t272 t283 t284) = some r := by rw [if_pos rfl] at H; exact H
               clear H
               have H := H1
               clear H1
               have H' := Aside0.mk H
               clear H
               go_wp2
               go_meet
               case rel => exact ⟨_, (false), (by first | rfl | (simp; done) | (simp [*]; done)), H', ⟨by have := HK1.out; have := HJ5.out; have := HK3.out; have := HJ29.out; have := HJ41.out; first | omega | exact Nat.le_refl _⟩, ⟨by (with_reducible repeat (first | apply Kd.R_alloc | apply Kd.R_drewN | apply Kd.R_drew)); exact Kd.R_mono (Kd.R_far (p := ⟨gb290, 1, none⟩) (Kd.R_far (p := ⟨gb290, 0, none⟩) (Kd.R_types HO_6.out BK290.out (by decide)) (fun _ hk => hk.2) (.int .i64 t287)) (fun _ hk => hk.2) (.int .i64 t288)) (fun _ hk => ⟨hk.1.1, hk.1.2⟩)⟩, ⟨by (with_reducible repeat (first | apply Kd.V_alloc | apply Kd.V_drewN | apply Kd.V_drew)); exact Kd.V_mono (Kd.V_far (p := ⟨gb290, 1, none⟩) (Kd.V_far (p := ⟨gb290, 0, none⟩) (Kd.V_mono HO_12.out (fun k_ hk => (⟨hk, hk.2⟩ : _ ∧ k_ ≠ gb290))) (fun _ hk => hk.2) (.int .i64 t287)) (fun _ hk => hk.2) (.int .i64 t288)) (fun _ hk => ⟨hk.1.1.1.1, ⟨hk.1.1.1.2.1, ⟨hk.1.1.1.2.2.1, ⟨hk.1.1.1.2.2.2, ⟨hk.1.1.2, hk.1.2⟩⟩⟩⟩⟩)⟩, ⟨by (with_reducible repeat (first | apply Kd.V_alloc | apply Kd.V_drewN | apply Kd.V_drew)); exact Kd.V_mono (Kd.V_far (p := ⟨gb290, 1, none⟩) (Kd.V_far (p := ⟨gb290, 0, none⟩) (Kd.V_mono HO_13.out (fun k_ hk => (⟨hk, hk.2⟩ : _ ∧ k_ ≠ gb290))) (fun _ hk => hk.2) (.int .i64 t287)) (fun _ hk => hk.2) (.int .i64 t288)) (fun _ hk => ⟨hk.1.1.1.1, ⟨hk.1.1.1.2.1, ⟨hk.1.1.1.2.2.1, ⟨hk.1.1.1.2.2.2, ⟨hk.1.1.2, hk.1.2⟩⟩⟩⟩⟩)⟩, ⟨by (with_reducible repeat (first | refine blk_drewN ?_ _ | refine blk_drew ?_ | refine blk_alloc ?_ _)); refine blk_far ?_ NB241_290.out _; (with_reducible repeat (first | refine blk_drewN ?_ _ | refine blk_drew ?_ | refine blk_alloc ?_ _)); refine blk_far ?_ NB241_290.out _; (with_reducible repeat (first | refine blk_drewN ?_ _ | refine blk_drew ?_ | refine blk_alloc ?_ _)); exact BK241.out⟩, ⟨by (with_reducible repeat (first | refine blk_drewN ?_ _ | refine blk_drew ?_ | refine blk_alloc ?_ _)); refine blk_far ?_ NB274_290.out _; (with_reducible repeat (first | refine blk_drewN ?_ _ | refine blk_drew ?_ | refine blk_alloc ?_ _)); refine blk_far ?_ NB274_290.out _; (with_reducible repeat (first | refine blk_drewN ?_ _ | refine blk_drew ?_ | refine blk_alloc ?_ _)); exact BK274.out⟩, ⟨by (with_reducible repeat (first | refine blk_drewN ?_ _ | refine blk_drew ?_ | refine blk_alloc ?_ _)); refine blk_far ?_ NB282_290.out _; (with_reducible repeat (first | refine blk_drewN ?_ _ | refine blk_drew ?_ | refine blk_alloc ?_ _)); refine blk_far ?_ NB282_290.out _; (with_reducible repeat (first | refine blk_drewN ?_ _ | refine blk_drew ?_ | refine blk_alloc ?_ _)); exact BK282.out⟩, ⟨by (with_reducible repeat (first | refine blk_drewN ?_ _ | refine blk_drew ?_ | refine blk_alloc ?_ _)); refine blk_far ?_ NB286_290.out _; (with_reducible repeat (first | refine blk_drewN ?_ _ | refine blk_drew ?_ | refine blk_alloc ?_ _)); refine blk_far ?_ NB286_290.out _; (with_reducible repeat (first | refine blk_drewN ?_ _ | refine blk_drew ?_ | refine blk_alloc ?_ _)); exact BK286.out⟩, ⟨by (with_reducible repeat (first | refine blk_drewN ?_ _ | refine blk_drew ?_ | refine blk_alloc ?_ _)); refine blk_put (cs := #[.int .i64 t287, .int .i64 0]) ?_ 1 _ rfl; (with_reducible repeat (first | refine blk_drewN ?_ _ | refine blk_drew ?_ | refine blk_alloc ?_ _)); refine blk_put (cs := #[.int .i64 0, .int .i64 0]) ?_ 0 _ rfl; (with_reducible repeat (first | refine blk_drewN ?_ _ | refine blk_drew ?_ | refine blk_alloc ?_ _)); exact BK290.out⟩, ⟨by repeat (first | (with_reducible first | exact HB.out | apply below_alloc | apply pw_below_drewN | apply below_drew1 | refine below_set ?_ GE241.out | refine below_set ?_ GE274.out | refine below_set ?_ GE282.out | refine below_set ?_ GE286.out | refine below_set ?_ GE290.out) | exact HB.out)⟩⟩
             replace c86 := Bool.eq_false_iff.mpr c86
             subst c86
             have H1 : (if (!(t283 == t287) || (!(t284 == t288))) = true then (flyleaflaw15_RegionKeeps.j5 kj41 t242 x6_1 (Go.bits .and .i64 a1_0 63) (Go.bits .and .i64 a1_1 63) t259 t262 t265 x15_3 t273 false t285 true a1_0 a1_1 a1_2 t267 t268 t269 t270 t271 t272 t283 t284) else (flyleaflaw15_RegionKeeps.j5 kj41 t242 x6_1 (Go.bits .and .i64 a1_0 63) (Go.bits .and .i64 a1_1 63) t259 t262 t265 x15_3 t273 false t285 (t285 != t289) a1_0 a1_1 a1_2 t267 t268 t269 t270 t271 t272 t283 t284)) = some r := by rw [if_neg (show ¬ (false = true) by decide)] at H; exact H
             clear H
             have H := H1
             clear H1
             by_cases c87 : (!(t283 == t287) || (!(t284 == t288))) = true
             · rw [if_pos c87] at H
               have c87b0 : (!(t283 == t287) || (!(t284 == t288))) = true := c87
               clear c87
               (first | rw [c87b0] | (simp only [i64_w, i32_w]; rw [c87b0]) | skip)
               have H' := Aside0.mk H
               clear H
               have hnb88 := NB286_241.out
               have hnc88 := NB241_286.out
               have hnb89 := NB286_274.out
               have hnc89 := NB274_286.out
               have hnb90 := NB286_282.out
               have hnc90 := NB282_286.out
               have hnb91 := NB286_290.out
               have hnc91 := NB290_286.out
               have hcz92_0 : w80.cell? ⟨gb286, 0, none⟩ = some (.int .i64 t283) := (blk_cell BK286.out 0).trans rfl
               have hcz92_1 : w80.cell? ⟨gb286, 1, none⟩ = some (.int .i64 t284) := (blk_cell BK286.out 1).trans rfl
               have hfz92_0 := blk_frozen BK286.out 0
               have hfz92_1 := blk_frozen BK286.out 1
               have hnb93 := NB290_241.out
               have hnc93 := NB241_290.out
               have hnb94 := NB290_274.out
               have hnc94 := NB274_290.out
               have hnb95 := NB290_282.out
               have hnc95 := NB282_290.out
               have hcz96_0 : w80.cell? ⟨gb290, 0, none⟩ = some (.int .i64 0) := (blk_cell BK290.out 0).trans rfl
               have hcz96_1 : w80.cell? ⟨gb290, 1, none⟩ = some (.int .i64 0) := (blk_cell BK290.out 1).trans rfl
               have hfz96_0 := blk_frozen BK290.out 0
               have hfz96_1 := blk_frozen BK290.out 1
               go_wp2
               go_meet
               case rel => exact ⟨_, (true), (by first | rfl | (simp; done) | (simp [*]; done)), H', ⟨by have := HK1.out; have := HJ5.out; have := HK3.out; have := HJ29.out; have := HJ41.out; first | omega | exact Nat.le_refl _⟩, ⟨by (with_reducible repeat (first | apply Kd.R_alloc | apply Kd.R_drewN | apply Kd.R_drew)); exact Kd.R_mono (Kd.R_far (p := ⟨gb290, 1, none⟩) (Kd.R_far (p := ⟨gb290, 0, none⟩) (Kd.R_types HO_6.out BK290.out (by decide)) (fun _ hk => hk.2) (.int .i64 t287)) (fun _ hk => hk.2) (.int .i64 t288)) (fun _ hk => ⟨hk.1.1, hk.1.2⟩)⟩, ⟨by (with_reducible repeat (first | apply Kd.V_alloc | apply Kd.V_drewN | apply Kd.V_drew)); exact Kd.V_mono (Kd.V_far (p := ⟨gb290, 1, none⟩) (Kd.V_far (p := ⟨gb290, 0, none⟩) (Kd.V_mono HO_12.out (fun k_ hk => (⟨hk, hk.2⟩ : _ ∧ k_ ≠ gb290))) (fun _ hk => hk.2) (.int .i64 t287)) (fun _ hk => hk.2) (.int .i64 t288)) (fun _ hk => ⟨hk.1.1.1.1, ⟨hk.1.1.1.2.1, ⟨hk.1.1.1.2.2.1, ⟨hk.1.1.1.2.2.2, ⟨hk.1.1.2, hk.1.2⟩⟩⟩⟩⟩)⟩, ⟨by (with_reducible repeat (first | apply Kd.V_alloc | apply Kd.V_drewN | apply Kd.V_drew)); exact Kd.V_mono (Kd.V_far (p := ⟨gb290, 1, none⟩) (Kd.V_far (p := ⟨gb290, 0, none⟩) (Kd.V_mono HO_13.out (fun k_ hk => (⟨hk, hk.2⟩ : _ ∧ k_ ≠ gb290))) (fun _ hk => hk.2) (.int .i64 t287)) (fun _ hk => hk.2) (.int .i64 t288)) (fun _ hk => ⟨hk.1.1.1.1, ⟨hk.1.1.1.2.1, ⟨hk.1.1.1.2.2.1, ⟨hk.1.1.1.2.2.2, ⟨hk.1.1.2, hk.1.2⟩⟩⟩⟩⟩)⟩, ⟨by (with_reducible repeat (first | refine blk_drewN ?_ _ | refine blk_drew ?_ | refine blk_alloc ?_ _)); refine blk_far ?_ NB241_290.out _; (with_reducible repeat (first | refine blk_drewN ?_ _ | refine blk_drew ?_ | refine blk_alloc ?_ _)); refine blk_far ?_ NB241_290.out _; (with_reducible repeat (first | refine blk_drewN ?_ _ | refine blk_drew ?_ | refine blk_alloc ?_ _)); exact BK241.out⟩, ⟨by (with_reducible repeat (first | refine blk_drewN ?_ _ | refine blk_drew ?_ | refine blk_alloc ?_ _)); refine blk_far ?_ NB274_290.out _; (with_reducible repeat (first | refine blk_drewN ?_ _ | refine blk_drew ?_ | refine blk_alloc ?_ _)); refine blk_far ?_ NB274_290.out _; (with_reducible repeat (first | refine blk_drewN ?_ _ | refine blk_drew ?_ | refine blk_alloc ?_ _)); exact BK274.out⟩, ⟨by (with_reducible repeat (first | refine blk_drewN ?_ _ | refine blk_drew ?_ | refine blk_alloc ?_ _)); refine blk_far ?_ NB282_290.out _; (with_reducible repeat (first | refine blk_drewN ?_ _ | refine blk_drew ?_ | refine blk_alloc ?_ _)); refine blk_far ?_ NB282_290.out _; (with_reducible repeat (first | refine blk_drewN ?_ _ | refine blk_drew ?_ | refine blk_alloc ?_ _)); exact BK282.out⟩, ⟨by (with_reducible repeat (first | refine blk_drewN ?_ _ | refine blk_drew ?_ | refine blk_alloc ?_ _)); refine blk_far ?_ NB286_290.out _; (with_reducible repeat (first | refine blk_drewN ?_ _ | refine blk_drew ?_ | refine blk_alloc ?_ _)); refine blk_far ?_ NB286_290.out _; (with_reducible repeat (first | refine blk_drewN ?_ _ | refine blk_drew ?_ | refine blk_alloc ?_ _)); exact BK286.out⟩, ⟨by (with_reducible repeat (first | refine blk_drewN ?_ _ | refine blk_drew ?_ | refine blk_alloc ?_ _)); refine blk_put (cs := #[.int .i64 t287, .int .i64 0]) ?_ 1 _ rfl; (with_reducible repeat (first | refine blk_drewN ?_ _ | refine blk_drew ?_ | refine blk_alloc ?_ _)); refine blk_put (cs := #[.int .i64 0, .int .i64 0]) ?_ 0 _ rfl; (with_reducible repeat (first | refine blk_drewN ?_ _ | refine blk_drew ?_ | refine blk_alloc ?_ _)); exact BK290.out⟩, ⟨by repeat (first | (with_reducible first | exact HB.out | apply below_alloc | apply pw_below_drewN | apply below_drew1 | refine below_set ?_ GE241.out | refine below_set ?_ GE274.out | refine below_set ?_ GE282.out | refine below_set ?_ GE286.out | refine below_set ?_ GE290.out) | exact HB.out)⟩⟩
             rw [if_neg c87] at H
             have c87b0 : (!(t283 == t287) || (!(t284 == t288))) = false := by simpa using c87
             clear c87
             (first | rw [c87b0] | (simp only [i64_w, i32_w]; rw [c87b0]) | skip)
             have H' := Aside0.mk H
             clear H
             have hnb97 := NB286_241.out
             have hnc97 := NB241_286.out
             have hnb98 := NB286_274.out
             have hnc98 := NB274_286.out
             have hnb99 := NB286_282.out
             have hnc99 := NB282_286.out
             have hnb100 := NB286_290.out
             have hnc100 := NB290_286.out
             have hcz101_0 : w80.cell? ⟨gb286, 0, none⟩ = some (.int .i64 t283) := (blk_cell BK286.out 0).trans rfl
             have hcz101_1 : w80.cell? ⟨gb286, 1, none⟩ = some (.int .i64 t284) := (blk_cell BK286.out 1).trans rfl
             have hfz101_0 := blk_frozen BK286.out 0
             have hfz101_1 := blk_frozen BK286.out 1
             have hnb102 := NB290_241.out
             have hnc102 := NB241_290.out
             have hnb103 := NB290_274.out
             have hnc103 := NB274_290.out
             have hnb104 := NB290_282.out
             have hnc104 := NB282_290.out
             have hcz105_0 : w80.cell? ⟨gb290, 0, none⟩ = some (.int .i64 0) := (blk_cell BK290.out 0).trans rfl
             have hcz105_1 : w80.cell? ⟨gb290, 1, none⟩ = some (.int .i64 0) := (blk_cell BK290.out 1).trans rfl
             have hfz105_0 := blk_frozen BK290.out 0
             have hfz105_1 := blk_frozen BK290.out 1
             go_wp2
             go_meet
             case rel => exact ⟨_, ((t285 != t289)), (by first | rfl | (simp; done) | (simp [*]; done)), H', ⟨by have := HK1.out; have := HJ5.out; have := HK3.out; have := HJ29.out; have := HJ41.out; first | omega | exact Nat.le_refl _⟩, ⟨by (with_reducible repeat (first | apply Kd.R_alloc | apply Kd.R_drewN | apply Kd.R_drew)); exact Kd.R_mono (Kd.R_far (p := ⟨gb290, 1, none⟩) (Kd.R_far (p := ⟨gb290, 0, none⟩) (Kd.R_types HO_6.out BK290.out (by decide)) (fun _ hk => hk.2) (.int .i64 t287)) (fun _ hk => hk.2) (.int .i64 t288)) (fun _ hk => ⟨hk.1.1, hk.1.2⟩)⟩, ⟨by (with_reducible repeat (first | apply Kd.V_alloc | apply Kd.V_drewN | apply Kd.V_drew)); exact Kd.V_mono (Kd.V_far (p := ⟨gb290, 1, none⟩) (Kd.V_far (p := ⟨gb290, 0, none⟩) (Kd.V_mono HO_12.out (fun k_ hk => (⟨hk, hk.2⟩ : _ ∧ k_ ≠ gb290))) (fun _ hk => hk.2) (.int .i64 t287)) (fun _ hk => hk.2) (.int .i64 t288)) (fun _ hk => ⟨hk.1.1.1.1, ⟨hk.1.1.1.2.1, ⟨hk.1.1.1.2.2.1, ⟨hk.1.1.1.2.2.2, ⟨hk.1.1.2, hk.1.2⟩⟩⟩⟩⟩)⟩, ⟨by (with_reducible repeat (first | apply Kd.V_alloc | apply Kd.V_drewN | apply Kd.V_drew)); exact Kd.V_mono (Kd.V_far (p := ⟨gb290, 1, none⟩) (Kd.V_far (p := ⟨gb290, 0, none⟩) (Kd.V_mono HO_13.out (fun k_ hk => (⟨hk, hk.2⟩ : _ ∧ k_ ≠ gb290))) (fun _ hk => hk.2) (.int .i64 t287)) (fun _ hk => hk.2) (.int .i64 t288)) (fun _ hk => ⟨hk.1.1.1.1, ⟨hk.1.1.1.2.1, ⟨hk.1.1.1.2.2.1, ⟨hk.1.1.1.2.2.2, ⟨hk.1.1.2, hk.1.2⟩⟩⟩⟩⟩)⟩, ⟨by (with_reducible repeat (first | refine blk_drewN ?_ _ | refine blk_drew ?_ | refine blk_alloc ?_ _)); refine blk_far ?_ NB241_290.out _; (with_reducible repeat (first | refine blk_drewN ?_ _ | refine blk_drew ?_ | refine blk_alloc ?_ _)); refine blk_far ?_ NB241_290.out _; (with_reducible repeat (first | refine blk_drewN ?_ _ | refine blk_drew ?_ | refine blk_alloc ?_ _)); exact BK241.out⟩, ⟨by (with_reducible repeat (first | refine blk_drewN ?_ _ | refine blk_drew ?_ | refine blk_alloc ?_ _)); refine blk_far ?_ NB274_290.out _; (with_reducible repeat (first | refine blk_drewN ?_ _ | refine blk_drew ?_ | refine blk_alloc ?_ _)); refine blk_far ?_ NB274_290.out _; (with_reducible repeat (first | refine blk_drewN ?_ _ | refine blk_drew ?_ | refine blk_alloc ?_ _)); exact BK274.out⟩, ⟨by (with_reducible repeat (first | refine blk_drewN ?_ _ | refine blk_drew ?_ | refine blk_alloc ?_ _)); refine blk_far ?_ NB282_290.out _; (with_reducible repeat (first | refine blk_drewN ?_ _ | refine blk_drew ?_ | refine blk_alloc ?_ _)); refine blk_far ?_ NB282_290.out _; (with_reducible repeat (first | refine blk_drewN ?_ _ | refine blk_drew ?_ | refine blk_alloc ?_ _)); exact BK282.out⟩, ⟨by (with_reducible repeat (first | refine blk_drewN ?_ _ | refine blk_drew ?_ | refine blk_alloc ?_ _)); refine blk_far ?_ NB286_290.out _; (with_reducible repeat (first | refine blk_drewN ?_ _ | refine blk_drew ?_ | refine blk_alloc ?_ _)); refine blk_far ?_ NB286_290.out _; (with_reducible repeat (first | refine blk_drewN ?_ _ | refine blk_drew ?_ | refine blk_alloc ?_ _)); exact BK286.out⟩, ⟨by (with_reducible repeat (first | refine blk_drewN ?_ _ | refine blk_drew ?_ | refine blk_alloc ?_ _)); refine blk_put (cs := #[.int .i64 t287, .int .i64 0]) ?_ 1 _ rfl; (with_reducible repeat (first | refine blk_drewN ?_ _ | refine blk_drew ?_ | refine blk_alloc ?_ _)); refine blk_put (cs := #[.int .i64 0, .int .i64 0]) ?_ 0 _ rfl; (with_reducible repeat (first | refine blk_drewN ?_ _ | refine blk_drew ?_ | refine blk_alloc ?_ _)); exact BK290.out⟩, ⟨by repeat (first | (with_reducible first | exact HB.out | apply below_alloc | apply pw_below_drewN | apply below_drew1 | refine below_set ?_ GE241.out | refine below_set ?_ GE274.out | refine below_set ?_ GE282.out | refine below_set ?_ GE286.out | refine below_set ?_ GE290.out) | exact HB.out)⟩⟩
           case rest =>
            clear HC67
            try clear c1
            try clear c2
            try clear p2
            try clear q2
            try clear hx2
            try clear c3
            try clear c4
            try clear c5
            try clear c6
            try clear p6
            try clear c7
            try clear c7b0
            try clear c8
            try clear c9
            try clear c9b0
            try clear c10
            try clear c10b0
            try clear c13
            try clear c13b0
            try clear c13b1
            try clear c23
            try clear p24
            try clear q24
            try clear hx24
            try clear c27
            try clear c27b0
            try clear c33
            try clear c34
            try clear c35
            try clear c36
            try clear c37
            try clear c38
            try clear c39
            try clear c41
            try clear c41b0
            try clear c43
            try clear c44
            try clear c45
            try clear c45b0
            try clear c45b1
            try clear c45b2
            try clear c46
            try clear c47
            try clear c47b0
            try clear c47b1
            try clear c48
            try clear c48b0
            try clear c48b1
            try clear c49
            try clear c50
            try clear c52
            try clear c54
            try clear c55
            try clear c57
            try clear c59
            try clear c60
            try clear c62
            try clear c64
            try clear c68
            try clear c69
            try clear c73
            try clear c74
            try clear c75
            try clear c77
            try clear c81
            try clear c82
            try clear c83
            try clear c84
            try clear c86
            try clear c87
            try clear c87b0
            try clear c88
            try clear c89
            try clear c90
            try clear c91
            try clear c93
            try clear c94
            try clear c95
            try clear c97
            try clear c98
            try clear c99
            try clear c100
            try clear c102
            try clear c103
            try clear c104
            try clear hcz101_0
            try clear hcz101_1
            try clear hcz105_0
            try clear hcz105_1
            try clear hcz22_0
            try clear hcz22_1
            try clear hcz22_2
            try clear hcz25_0
            try clear hcz25_1
            try clear hcz25_2
            try clear hcz34_0
            try clear hcz34_1
            try clear hcz34_2
            try clear hcz34_3
            try clear hcz34_4
            try clear hcz34_5
            try clear hcz40_0
            try clear hcz40_1
            try clear hcz40_2
            try clear hcz40_3
            try clear hcz40_4
            try clear hcz40_5
            try clear hcz51_0
            try clear hcz51_1
            try clear hcz51_2
            try clear hcz51_3
            try clear hcz51_4
            try clear hcz51_5
            try clear hcz53_0
            try clear hcz53_1
            try clear hcz53_2
            try clear hcz53_3
            try clear hcz53_4
            try clear hcz53_5
            try clear hcz56_0
            try clear hcz56_1
            try clear hcz56_2
            try clear hcz56_3
            try clear hcz56_4
            try clear hcz56_5
            try clear hcz58_0
            try clear hcz58_1
            try clear hcz58_2
            try clear hcz58_3
            try clear hcz58_4
            try clear hcz58_5
            try clear hcz61_0
            try clear hcz61_1
            try clear hcz61_2
            try clear hcz61_3
            try clear hcz61_4
            try clear hcz61_5
            try clear hcz63_0
            try clear hcz63_1
            try clear hcz63_2
            try clear hcz63_3
            try clear hcz63_4
            try clear hcz63_5
            try clear hcz70_0
            try clear hcz70_1
            try clear hcz70_2
            try clear hcz70_3
            try clear hcz70_4
            try clear hcz70_5
            try clear hcz76_0
            try clear hcz76_1
            try clear hcz78_0
            try clear hcz78_1
            try clear hcz78_2
            try clear hcz78_3
            try clear hcz78_4
            try clear hcz78_5
            try clear hcz85_0
            try clear hcz85_1
            try clear hcz92_0
            try clear hcz92_1
            try clear hcz96_0
            try clear hcz96_1
            try clear hfz101_0
            try clear hfz101_1
            try clear hfz105_0
            try clear hfz105_1
            try clear hfz22_0
            try clear hfz22_1
            try clear hfz22_2
            try clear hfz25_0
            try clear hfz25_1
            try clear hfz25_2
            try clear hfz34_0
            try clear hfz34_1
            try clear hfz34_2
            try clear hfz34_3
            try clear hfz34_4
            try clear hfz34_5
            try clear hfz40_0
            try clear hfz40_1
            try clear hfz40_2
            try clear hfz40_3
            try clear hfz40_4
            try clear hfz40_5
            try clear hfz51_0
            try clear hfz51_1
            try clear hfz51_2
            try clear hfz51_3
            try clear hfz51_4
            try clear hfz51_5
            try clear hfz53_0
            try clear hfz53_1
            try clear hfz53_2
            try clear hfz53_3
            try clear hfz53_4
            try clear hfz53_5
            try clear hfz56_0
            try clear hfz56_1
            try clear hfz56_2
            try clear hfz56_3
            try clear hfz56_4
            try clear hfz56_5
            try clear hfz58_0
            try clear hfz58_1
            try clear hfz58_2
            try clear hfz58_3
            try clear hfz58_4
            try clear hfz58_5
            try clear hfz61_0
            try clear hfz61_1
            try clear hfz61_2
            try clear hfz61_3
            try clear hfz61_4
            try clear hfz61_5
            try clear hfz63_0
            try clear hfz63_1
            try clear hfz63_2
            try clear hfz63_3
            try clear hfz63_4
            try clear hfz63_5
            try clear hfz70_0
            try clear hfz70_1
            try clear hfz70_2
            try clear hfz70_3
            try clear hfz70_4
            try clear hfz70_5
            try clear hfz76_0
            try clear hfz76_1
            try clear hfz78_0
            try clear hfz78_1
            try clear hfz78_2
            try clear hfz78_3
            try clear hfz78_4
            try clear hfz78_5
            try clear hfz85_0
            try clear hfz85_1
            try clear hfz92_0
            try clear hfz92_1
            try clear hfz96_0
            try clear hfz96_1
            try clear hx243_0
            try clear hx243_1
            try clear hx243_10
            try clear hx243_2
            try clear hx243_3
            try clear hx243_4
            try clear hx243_5
            try clear hx243_6
            try clear hx243_7
            try clear hx243_8
            try clear hx243_9
            try clear p2
            try clear p24
            try clear p243
            try clear p6
            try clear q2
            try clear q24
            try clear q243
            obtain ⟨kq, x158_66, rfl, HA, HJ66, HO_6, HO_12, HO_13, BK241, BK274, BK282, BK286, BK290, HB⟩ := hcut
            cases kq with
            | zero => exact absurd HA.out (by simp [flyleaflaw15_RegionKeeps.j5])
            | succ kj66 =>
             have H := HA.out
             clear HA
             simp only [flyleaflaw15_RegionKeeps.j5] at H
             by_cases c106 : x158_66 = true
             · subst c106
               have H1 : (some false) = some r := by rw [if_pos rfl] at H; exact H
               clear H
               have H := H1
               clear H1
               obtain rfl := Option.some.inj H
               go_wp2
               go_ret
               exact ⟨by first | rfl | (simp [errW_none, errW_some] <;> rfl) | (simp [*, errW_none, errW_some] <;> rfl), by repeat (first | (with_reducible first | exact HB.out | apply below_alloc | apply pw_below_drewN | apply below_drew1 | refine below_set ?_ GE241.out | refine below_set ?_ GE274.out | refine below_set ?_ GE282.out | refine below_set ?_ GE286.out | refine below_set ?_ GE290.out) | exact HB.out)⟩
             replace c106 := Bool.eq_false_iff.mpr c106
             subst c106
             have H1 : (if t265 = 0 then ((region_Find.f kj66 t262 x15_3).bind fun bt291 => ((region_Key.f bt291.1 bt291.2.1 bt291.2.2.1 bt291.2.2.2.1 bt291.2.2.2.2.1 bt291.2.2.2.2.2.1 x15_3).bind fun bt299 => (flyleaflaw15_RegionKeeps.j6 kj66 t242 x6_1 (Go.bits .and .i64 a1_0 63) (Go.bits .and .i64 a1_1 63) t259 t262 t265 x15_3 t273 x20_29 t285 bt291.2.2.2.2.2.2 bt299.2.2 t269 a1_0 a1_1 a1_2 t267 t268 t269 t270 t271 t272 t283 t284 bt291.1 bt291.2.1 bt291.2.2.1 bt291.2.2.2.1 bt291.2.2.2.2.1 bt291.2.2.2.2.2.1 bt299.1 bt299.2.1))) else (flyleaflaw15_RegionKeeps.l1 kj66 t242 x6_1 (Go.bits .and .i64 a1_0 63) (Go.bits .and .i64 a1_1 63) t259 t262 t265 (wrap64 (x15_3 + 1)) a1_0 a1_1 a1_2)) = some r := by rw [if_neg (show ¬ (false = true) by decide)] at H; exact H
             clear H
             have H := H1
             clear H1
             by_cases c107 : t265 = 0
             rotate_left
             · rw [if_neg c107] at H
               have c107b0 : (t265 == 0) = false := beq_eq_false_iff_ne.mpr c107
               have c107b1 : (t265 != 0) = true := bne_iff_ne.mpr c107
               have H' := Aside0.mk H
               clear H
               go_wp2
               go_roundg kj66
               case measure => have := HK1.out; have := HJ5.out; have := HK3.out; have := HJ29.out; have := HJ41.out; have := HJ66.out; omega
               case rel => exact ⟨(wrap64 (x15_3 + 1)), (by first | rfl | (simp; done) | (simp [*]; done)), H', ⟨by have := HK1.out; have := HJ5.out; have := HK3.out; have := HJ29.out; have := HJ41.out; have := HJ66.out; omega⟩, ⟨by (with_reducible repeat (first | apply Kd.R_alloc | apply Kd.R_drewN | apply Kd.R_drew)); exact Kd.R_mono HO_6.out (fun _ hk => trivial)⟩, ⟨by (with_reducible repeat (first | apply Kd.V_alloc | apply Kd.V_drewN | apply Kd.V_drew)); exact Kd.V_mono HO_12.out (fun _ hk => ⟨hk.1, hk.2.1⟩)⟩, ⟨by (with_reducible repeat (first | apply Kd.V_alloc | apply Kd.V_drewN | apply Kd.V_drew)); exact Kd.V_mono HO_13.out (fun _ hk => ⟨hk.1, hk.2.1⟩)⟩, ⟨by (with_reducible repeat (first | refine blk_drewN ?_ _ | refine blk_drew ?_ | refine blk_alloc ?_ _)); exact BK241.out⟩, ⟨by repeat (first | (with_reducible first | exact HB.out | apply below_alloc | apply pw_below_drewN | apply below_drew1 | refine below_set ?_ GE241.out | refine below_set ?_ GE274.out | refine below_set ?_ GE282.out | refine below_set ?_ GE286.out | refine below_set ?_ GE290.out) | exact HB.out)⟩⟩
             rw [if_pos c107] at H
             have c107b0 : (t265 == 0) = true := beq_iff_eq.mpr c107
             have c107b1 : (t265 != 0) = false := bne_eq_false_iff_eq.mpr c107
             clear c107
             replace H := Option.bind_eq_some_iff.mp H
             obtain ⟨⟨t291, t292, t293, t294, t295, t296, t297⟩, A1080, H⟩ := H
             replace H : ((region_Key.f t291 t292 t293 t294 t295 t296 x15_3).bind fun bt299 => (flyleaflaw15_RegionKeeps.j6 kj66 t242 x6_1 (Go.bits .and .i64 a1_0 63) (Go.bits .and .i64 a1_1 63) t259 t262 t265 x15_3 t273 x20_29 t285 t297 bt299.2.2 t269 a1_0 a1_1 a1_2 t267 t268 t269 t270 t271 t272 t283 t284 t291 t292 t293 t294 t295 t296 bt299.1 bt299.2.1)) = some r := H
             have A108 := Aside0.mk A1080
             clear A1080
             replace H := Option.bind_eq_some_iff.mp H
             obtain ⟨⟨t299, t300, t301⟩, A1090, H⟩ := H
             replace H : (flyleaflaw15_RegionKeeps.j6 kj66 t242 x6_1 (Go.bits .and .i64 a1_0 63) (Go.bits .and .i64 a1_1 63) t259 t262 t265 x15_3 t273 x20_29 t285 t297 t301 t269 a1_0 a1_1 a1_2 t267 t268 t269 t270 t271 t272 t283 t284 t291 t292 t293 t294 t295 t296 t299 t300) = some r := H
             have A109 := Aside0.mk A1090
             clear A1090
             have HC110 := Aside0.mk H
             clear H
             obtain ⟨Ao111, co111, eo111⟩ := Kd.V_slice HO_13.out
             subst eo111
             go_upto_region 28 with (first | ((with_reducible refine gate_callee (f := 37) rfl ?_); refine goesL_ (some 164) rfl rfl Try.func37 (by kernel_rfl) rfl #[.slice Ao111 t262.length co111, .int .i64 x15_3] rfl (by (try simp only [List.map_toArray, List.map_cons, List.map_nil]); first | done | rfl | (simp only [List.length_drop, List.length_take]; rfl)) ?_; (with_reducible refine (region_Find.calls kj66 _ _ t262 x15_3 t291 t292 t293 t294 t295 t296 t297 _ ?side1 ?side2 A108.out).mono ?_); (case side1 => repeat (first | exact (Kd.V_reads' HO_13.out).2.2 | (with_reducible refine Kd.C_alloc ?_ _) | (with_reducible refine Kd.C_drewN ?_ _) | (with_reducible refine Kd.C_drew ?_))); (case side2 => exact (Kd.V_reads' HO_13.out).2.1); rintro e w112 ⟨rfl, hb⟩; refine ⟨_, rfl, ?_⟩; have n0_ := Aside0.mk (Kd.R_below (by (with_reducible repeat (first | apply Kd.R_alloc | apply Kd.R_drewN | apply Kd.R_drew)); exact HO_6.out) hb); have n1_ := Aside0.mk (Kd.V_below (by (with_reducible repeat (first | apply Kd.V_alloc | apply Kd.V_drewN | apply Kd.V_drew)); exact HO_12.out) hb); have n2_ := Aside0.mk (Kd.V_below (by (with_reducible repeat (first | apply Kd.V_alloc | apply Kd.V_drewN | apply Kd.V_drew)); exact HO_13.out) hb); have n3_ := Aside0.mk (blk_below (g := gb241) (o := .cells #[.int .i64 a1_0, .int .i64 a1_1, .int .i64 a1_2] 67 (0, 0)) (by (with_reducible repeat (first | refine blk_drewN ?_ _ | refine blk_drew ?_ | refine blk_alloc ?_ _)); exact BK241.out) hb); have n4_ := Aside0.mk (blk_below (g := gb274) (o := .cells #[.int .i64 t267, .int .i64 t268, .int .i64 t269, .int .i64 t270, .int .i64 t271, .int .i64 t272] 41 (0, 0)) (by (with_reducible repeat (first | refine blk_drewN ?_ _ | refine blk_drew ?_ | refine blk_alloc ?_ _)); exact BK274.out) hb); have n5_ := Aside0.mk (blk_below (g := gb282) (o := .cells #[.int .i64 t275, .int .i64 t276, .int .i64 t277, .int .i64 t278, .int .i64 t279, .int .i64 t280] 41 (0, 0)) (by (with_reducible repeat (first | refine blk_drewN ?_ _ | refine blk_drew ?_ | refine blk_alloc ?_ _)); exact BK282.out) hb); have n6_ := Aside0.mk (blk_below (g := gb286) (o := .cells #[.int .i64 t283, .int .i64 t284] 77 (0, 0)) (by (with_reducible repeat (first | refine blk_drewN ?_ _ | refine blk_drew ?_ | refine blk_alloc ?_ _)); exact BK286.out) hb); have n7_ := Aside0.mk (blk_below (g := gb290) (o := .cells #[.int .i64 t287, .int .i64 t288] 77 (0, 0)) (by (with_reducible repeat (first | refine blk_drewN ?_ _ | refine blk_drew ?_ | refine blk_alloc ?_ _)); exact BK290.out) hb); have n8_ := Aside0.mk (below_step (by repeat (first | (with_reducible first | exact HB.out | apply below_alloc | apply pw_below_drewN | apply below_drew1 | refine below_set ?_ GE241.out | refine below_set ?_ GE274.out | refine below_set ?_ GE282.out | refine below_set ?_ GE286.out | refine below_set ?_ GE290.out) | exact HB.out)) hb); clear HO_6; clear HO_12; clear HO_13; clear BK241; clear BK274; clear BK282; clear BK286; clear BK290; clear HB; have HO_6 := n0_; have HO_12 := n1_; have HO_13 := n2_; have BK241 := n3_; have BK274 := n4_; have BK282 := n5_; have BK286 := n6_; have BK290 := n7_; have HB := n8_; clear n0_ n1_ n2_ n3_ n4_ n5_ n6_ n7_ n8_; (try clear hb); (try clear hb2); (try clear hk); (try clear hi)) | ((with_reducible refine gate_dst (N := 25) rfl ?_); refine box_event ?hg (N := 25) ?hd (cs := #[.int .i64 0, .int .i64 0, .int .i64 0, .int .i64 0, .int .i64 0, .int .i64 0]) (t := 41) ?hr ?_; (case hd => rfl); (case hg => rfl); (case hr => first | (go_simp; done) | (go_simp; rfl)); intro gb298 hg w113 hbox hb; have n0_ := Aside0.mk (Kd.R_below (Kd.R_elderB (by (with_reducible repeat (first | apply Kd.R_alloc | apply Kd.R_drewN | apply Kd.R_drew)); exact HO_6.out) gb298 (Nat.le_of_eq hg.symm)) hb); have n1_ := Aside0.mk (Kd.V_below (Kd.V_elderB (by (with_reducible repeat (first | apply Kd.V_alloc | apply Kd.V_drewN | apply Kd.V_drew)); exact HO_12.out) gb298 (Nat.le_of_eq hg.symm)) hb); have n2_ := Aside0.mk (Kd.V_below (Kd.V_elderB (by (with_reducible repeat (first | apply Kd.V_alloc | apply Kd.V_drewN | apply Kd.V_drew)); exact HO_13.out) gb298 (Nat.le_of_eq hg.symm)) hb); have n3_ := Aside0.mk (blk_below (g := gb241) (o := .cells #[.int .i64 a1_0, .int .i64 a1_1, .int .i64 a1_2] 67 (0, 0)) (by (with_reducible repeat (first | refine blk_drewN ?_ _ | refine blk_drew ?_ | refine blk_alloc ?_ _)); exact BK241.out) hb); have n4_ := Aside0.mk (blk_below (g := gb274) (o := .cells #[.int .i64 t267, .int .i64 t268, .int .i64 t269, .int .i64 t270, .int .i64 t271, .int .i64 t272] 41 (0, 0)) (by (with_reducible repeat (first | refine blk_drewN ?_ _ | refine blk_drew ?_ | refine blk_alloc ?_ _)); exact BK274.out) hb); have n5_ := Aside0.mk (blk_below (g := gb282) (o := .cells #[.int .i64 t275, .int .i64 t276, .int .i64 t277, .int .i64 t278, .int .i64 t279, .int .i64 t280] 41 (0, 0)) (by (with_reducible repeat (first | refine blk_drewN ?_ _ | refine blk_drew ?_ | refine blk_alloc ?_ _)); exact BK282.out) hb); have n6_ := Aside0.mk (blk_below (g := gb286) (o := .cells #[.int .i64 t283, .int .i64 t284] 77 (0, 0)) (by (with_reducible repeat (first | refine blk_drewN ?_ _ | refine blk_drew ?_ | refine blk_alloc ?_ _)); exact BK286.out) hb); have n7_ := Aside0.mk (blk_below (g := gb290) (o := .cells #[.int .i64 t287, .int .i64 t288] 77 (0, 0)) (by (with_reducible repeat (first | refine blk_drewN ?_ _ | refine blk_drew ?_ | refine blk_alloc ?_ _)); exact BK290.out) hb); have n8_ := Aside0.mk (below_step (by repeat (first | (with_reducible first | exact HB.out | apply below_alloc | apply pw_below_drewN | apply below_drew1 | refine below_set ?_ GE241.out | refine below_set ?_ GE274.out | refine below_set ?_ GE282.out | refine below_set ?_ GE286.out | refine below_set ?_ GE290.out) | exact HB.out)) hb); have n9_ := Aside0.mk (hbox); have n10_ := Aside0.mk ((by rw [hg]; exact (below_size (by repeat (first | (with_reducible first | exact HB.out | apply below_alloc | apply pw_below_drewN | apply below_drew1 | refine below_set ?_ GE241.out | refine below_set ?_ GE274.out | refine below_set ?_ GE282.out | refine below_set ?_ GE286.out | refine below_set ?_ GE290.out) | exact HB.out))) : w.heap.size ≤ gb298)); have n11_ := Aside0.mk ((by rw [hg]; exact (below_size (by repeat (first | (with_reducible first | exact HB.out | apply below_alloc | apply pw_below_drewN | apply below_drew1 | refine below_set ?_ GE241.out | refine below_set ?_ GE274.out | refine below_set ?_ GE282.out | refine below_set ?_ GE286.out | refine below_set ?_ GE290.out) | exact HB.out))) : w.heap.size ≤ gb298)); have n12_ := Aside0.mk ((by rw [hg]; exact Nat.ne_of_lt (blk_lt (g := gb241) (o := .cells #[.int .i64 a1_0, .int .i64 a1_1, .int .i64 a1_2] 67 (0, 0)) (by (with_reducible repeat (first | refine blk_drewN ?_ _ | refine blk_drew ?_ | refine blk_alloc ?_ _)); exact BK241.out)) : gb241 ≠ gb298)); have n13_ := Aside0.mk ((by rw [hg]; exact Nat.ne_of_gt (blk_lt (g := gb241) (o := .cells #[.int .i64 a1_0, .int .i64 a1_1, .int .i64 a1_2] 67 (0, 0)) (by (with_reducible repeat (first | refine blk_drewN ?_ _ | refine blk_drew ?_ | refine blk_alloc ?_ _)); exact BK241.out)) : gb298 ≠ gb241)); have n14_ := Aside0.mk ((by rw [hg]; exact Nat.ne_of_lt (blk_lt (g := gb274) (o := .cells #[.int .i64 t267, .int .i64 t268, .int .i64 t269, .int .i64 t270, .int .i64 t271, .int .i64 t272] 41 (0, 0)) (by (with_reducible repeat (first | refine blk_drewN ?_ _ | refine blk_drew ?_ | refine blk_alloc ?_ _)); exact BK274.out)) : gb274 ≠ gb298)); have n15_ := Aside0.mk ((by rw [hg]; exact Nat.ne_of_gt (blk_lt (g := gb274) (o := .cells #[.int .i64 t267, .int .i64 t268, .int .i64 t269, .int .i64 t270, .int .i64 t271, .int .i64 t272] 41 (0, 0)) (by (with_reducible repeat (first | refine blk_drewN ?_ _ | refine blk_drew ?_ | refine blk_alloc ?_ _)); exact BK274.out)) : gb298 ≠ gb274)); have n16_ := Aside0.mk ((by rw [hg]; exact Nat.ne_of_lt (blk_lt (g := gb282) (o := .cells #[.int .i64 t275, .int .i64 t276, .int .i64 t277, .int .i64 t278, .int .i64 t279, .int .i64 t280] 41 (0, 0)) (by (with_reducible repeat (first | refine blk_drewN ?_ _ | refine blk_drew ?_ | refine blk_alloc ?_ _)); exact BK282.out)) : gb282 ≠ gb298)); have n17_ := Aside0.mk ((by rw [hg]; exact Nat.ne_of_gt (blk_lt (g := gb282) (o := .cells #[.int .i64 t275, .int .i64 t276, .int .i64 t277, .int .i64 t278, .int .i64 t279, .int .i64 t280] 41 (0, 0)) (by (with_reducible repeat (first | refine blk_drewN ?_ _ | refine blk_drew ?_ | refine blk_alloc ?_ _)); exact BK282.out)) : gb298 ≠ gb282)); have n18_ := Aside0.mk ((by rw [hg]; exact Nat.ne_of_lt (blk_lt (g := gb286) (o := .cells #[.int .i64 t283, .int .i64 t284] 77 (0, 0)) (by (with_reducible repeat (first | refine blk_drewN ?_ _ | refine blk_drew ?_ | refine blk_alloc ?_ _)); exact BK286.out)) : gb286 ≠ gb298)); have n19_ := Aside0.mk ((by rw [hg]; exact Nat.ne_of_gt (blk_lt (g := gb286) (o := .cells #[.int .i64 t283, .int .i64 t284] 77 (0, 0)) (by (with_reducible repeat (first | refine blk_drewN ?_ _ | refine blk_drew ?_ | refine blk_alloc ?_ _)); exact BK286.out)) : gb298 ≠ gb286)); have n20_ := Aside0.mk ((by rw [hg]; exact Nat.ne_of_lt (blk_lt (g := gb290) (o := .cells #[.int .i64 t287, .int .i64 t288] 77 (0, 0)) (by (with_reducible repeat (first | refine blk_drewN ?_ _ | refine blk_drew ?_ | refine blk_alloc ?_ _)); exact BK290.out)) : gb290 ≠ gb298)); have n21_ := Aside0.mk ((by rw [hg]; exact Nat.ne_of_gt (blk_lt (g := gb290) (o := .cells #[.int .i64 t287, .int .i64 t288] 77 (0, 0)) (by (with_reducible repeat (first | refine blk_drewN ?_ _ | refine blk_drew ?_ | refine blk_alloc ?_ _)); exact BK290.out)) : gb298 ≠ gb290)); clear HO_6; clear HO_12; clear HO_13; clear BK241; clear BK274; clear BK282; clear BK286; clear BK290; clear HB; have HO_6 := n0_; have HO_12 := n1_; have HO_13 := n2_; have BK241 := n3_; have BK274 := n4_; have BK282 := n5_; have BK286 := n6_; have BK290 := n7_; have HB := n8_; have BK298 := n9_; have GW298 := n10_; have GE298 := n11_; have NB241_298 := n12_; have NB298_241 := n13_; have NB274_298 := n14_; have NB298_274 := n15_; have NB282_298 := n16_; have NB298_282 := n17_; have NB286_298 := n18_; have NB298_286 := n19_; have NB290_298 := n20_; have NB298_290 := n21_; clear n0_ n1_ n2_ n3_ n4_ n5_ n6_ n7_ n8_ n9_ n10_ n11_ n12_ n13_ n14_ n15_ n16_ n17_ n18_ n19_ n20_ n21_; clear hb hbox hg; have hnb114 := NB298_241.out; have hnc114 := NB241_298.out; have hnb115 := NB298_274.out; have hnc115 := NB274_298.out; have hnb116 := NB298_282.out; have hnc116 := NB282_298.out; have hnb117 := NB298_286.out; have hnc117 := NB286_298.out; have hnb118 := NB298_290.out; have hnc118 := NB290_298.out; have hcz119_0 : w113.cell? ⟨gb298, 0, none⟩ = some (.int .i64 0) := (blk_cell BK298.out 0).trans rfl; have hcz119_1 : w113.cell? ⟨gb298, 1, none⟩ = some (.int .i64 0) := (blk_cell BK298.out 1).trans rfl; have hcz119_2 : w113.cell? ⟨gb298, 2, none⟩ = some (.int .i64 0) := (blk_cell BK298.out 2).trans rfl; have hcz119_3 : w113.cell? ⟨gb298, 3, none⟩ = some (.int .i64 0) := (blk_cell BK298.out 3).trans rfl; have hcz119_4 : w113.cell? ⟨gb298, 4, none⟩ = some (.int .i64 0) := (blk_cell BK298.out 4).trans rfl; have hcz119_5 : w113.cell? ⟨gb298, 5, none⟩ = some (.int .i64 0) := (blk_cell BK298.out 5).trans rfl; have hfz119_0 := blk_frozen BK298.out 0; have hfz119_1 := blk_frozen BK298.out 1; have hfz119_2 := blk_frozen BK298.out 2; have hfz119_3 := blk_frozen BK298.out 3; have hfz119_4 := blk_frozen BK298.out 4; have hfz119_5 := blk_frozen BK298.out 5) | ((with_reducible refine gate_callee (f := 38) rfl ?_); refine goesL_ (some 170) rfl rfl Try.func38 (by kernel_rfl) rfl #[.agg #[.int .i64 t291, .int .i64 t292, .int .i64 t293, .int .i64 t294, .int .i64 t295, .int .i64 t296], .int .i64 x15_3] rfl (by (try simp only [List.map_toArray, List.map_cons, List.map_nil]); first | done | rfl | (simp only [List.length_drop, List.length_take]; rfl)) ?_; (with_reducible refine (region_Key.calls t291 t292 t293 t294 t295 t296 x15_3 t299 t300 t301 _ A109.out).mono ?_); rintro e w120 ⟨rfl, hb⟩; refine ⟨_, rfl, ?_⟩; have n0_ := Aside0.mk (Kd.R_below (by (with_reducible repeat (first | apply Kd.R_alloc | apply Kd.R_drewN | apply Kd.R_drew)); exact (Kd.R_mono (Kd.R_far (p := ⟨gb298, 5, none⟩) (Kd.R_far (p := ⟨gb298, 4, none⟩) (Kd.R_far (p := ⟨gb298, 3, none⟩) (Kd.R_far (p := ⟨gb298, 2, none⟩) (Kd.R_far (p := ⟨gb298, 1, none⟩) (Kd.R_far (p := ⟨gb298, 0, none⟩) (Kd.R_mono HO_6.out (fun k_ hk => (⟨hk, hk.2⟩ : _ ∧ k_ ≠ gb298))) (fun _ hk => hk.2) (.int .i64 t291)) (fun _ hk => hk.2) (.int .i64 t292)) (fun _ hk => hk.2) (.int .i64 t293)) (fun _ hk => hk.2) (.int .i64 t294)) (fun _ hk => hk.2) (.int .i64 t295)) (fun _ hk => hk.2) (.int .i64 t296)) (fun _ h_ => h_.1))) hb); have n1_ := Aside0.mk (Kd.V_below (by (with_reducible repeat (first | apply Kd.V_alloc | apply Kd.V_drewN | apply Kd.V_drew)); exact (Kd.V_mono (Kd.V_far (p := ⟨gb298, 5, none⟩) (Kd.V_far (p := ⟨gb298, 4, none⟩) (Kd.V_far (p := ⟨gb298, 3, none⟩) (Kd.V_far (p := ⟨gb298, 2, none⟩) (Kd.V_far (p := ⟨gb298, 1, none⟩) (Kd.V_far (p := ⟨gb298, 0, none⟩) (Kd.V_mono HO_12.out (fun k_ hk => (⟨hk, hk.2⟩ : _ ∧ k_ ≠ gb298))) (fun _ hk => hk.2) (.int .i64 t291)) (fun _ hk => hk.2) (.int .i64 t292)) (fun _ hk => hk.2) (.int .i64 t293)) (fun _ hk => hk.2) (.int .i64 t294)) (fun _ hk => hk.2) (.int .i64 t295)) (fun _ hk => hk.2) (.int .i64 t296)) (fun _ h_ => h_.1))) hb); have n2_ := Aside0.mk (Kd.V_below (by (with_reducible repeat (first | apply Kd.V_alloc | apply Kd.V_drewN | apply Kd.V_drew)); exact (Kd.V_mono (Kd.V_far (p := ⟨gb298, 5, none⟩) (Kd.V_far (p := ⟨gb298, 4, none⟩) (Kd.V_far (p := ⟨gb298, 3, none⟩) (Kd.V_far (p := ⟨gb298, 2, none⟩) (Kd.V_far (p := ⟨gb298, 1, none⟩) (Kd.V_far (p := ⟨gb298, 0, none⟩) (Kd.V_mono HO_13.out (fun k_ hk => (⟨hk, hk.2⟩ : _ ∧ k_ ≠ gb298))) (fun _ hk => hk.2) (.int .i64 t291)) (fun _ hk => hk.2) (.int .i64 t292)) (fun _ hk => hk.2) (.int .i64 t293)) (fun _ hk => hk.2) (.int .i64 t294)) (fun _ hk => hk.2) (.int .i64 t295)) (fun _ hk => hk.2) (.int .i64 t296)) (fun _ h_ => h_.1))) hb); have n3_ := Aside0.mk (blk_below (g := gb241) (o := .cells #[.int .i64 a1_0, .int .i64 a1_1, .int .i64 a1_2] 67 (0, 0)) (by (with_reducible repeat (first | refine blk_drewN ?_ _ | refine blk_drew ?_ | refine blk_alloc ?_ _)); refine blk_far ?_ NB241_298.out _; (with_reducible repeat (first | refine blk_drewN ?_ _ | refine blk_drew ?_ | refine blk_alloc ?_ _)); refine blk_far ?_ NB241_298.out _; (with_reducible repeat (first | refine blk_drewN ?_ _ | refine blk_drew ?_ | refine blk_alloc ?_ _)); refine blk_far ?_ NB241_298.out _; (with_reducible repeat (first | refine blk_drewN ?_ _ | refine blk_drew ?_ | refine blk_alloc ?_ _)); refine blk_far ?_ NB241_298.out _; (with_reducible repeat (first | refine blk_drewN ?_ _ | refine blk_drew ?_ | refine blk_alloc ?_ _)); refine blk_far ?_ NB241_298.out _; (with_reducible repeat (first | refine blk_drewN ?_ _ | refine blk_drew ?_ | refine blk_alloc ?_ _)); refine blk_far ?_ NB241_298.out _; (with_reducible repeat (first | refine blk_drewN ?_ _ | refine blk_drew ?_ | refine blk_alloc ?_ _)); exact BK241.out) hb); have n4_ := Aside0.mk (blk_below (g := gb274) (o := .cells #[.int .i64 t267, .int .i64 t268, .int .i64 t269, .int .i64 t270, .int .i64 t271, .int .i64 t272] 41 (0, 0)) (by (with_reducible repeat (first | refine blk_drewN ?_ _ | refine blk_drew ?_ | refine blk_alloc ?_ _)); refine blk_far ?_ NB274_298.out _; (with_reducible repeat (first | refine blk_drewN ?_ _ | refine blk_drew ?_ | refine blk_alloc ?_ _)); refine blk_far ?_ NB274_298.out _; (with_reducible repeat (first | refine blk_drewN ?_ _ | refine blk_drew ?_ | refine blk_alloc ?_ _)); refine blk_far ?_ NB274_298.out _; (with_reducible repeat (first | refine blk_drewN ?_ _ | refine blk_drew ?_ | refine blk_alloc ?_ _)); refine blk_far ?_ NB274_298.out _; (with_reducible repeat (first | refine blk_drewN ?_ _ | refine blk_drew ?_ | refine blk_alloc ?_ _)); refine blk_far ?_ NB274_298.out _; (with_reducible repeat (first | refine blk_drewN ?_ _ | refine blk_drew ?_ | refine blk_alloc ?_ _)); refine blk_far ?_ NB274_298.out _; (with_reducible repeat (first | refine blk_drewN ?_ _ | refine blk_drew ?_ | refine blk_alloc ?_ _)); exact BK274.out) hb); have n5_ := Aside0.mk (blk_below (g := gb282) (o := .cells #[.int .i64 t275, .int .i64 t276, .int .i64 t277, .int .i64 t278, .int .i64 t279, .int .i64 t280] 41 (0, 0)) (by (with_reducible repeat (first | refine blk_drewN ?_ _ | refine blk_drew ?_ | refine blk_alloc ?_ _)); refine blk_far ?_ NB282_298.out _; (with_reducible repeat (first | refine blk_drewN ?_ _ | refine blk_drew ?_ | refine blk_alloc ?_ _)); refine blk_far ?_ NB282_298.out _; (with_reducible repeat (first | refine blk_drewN ?_ _ | refine blk_drew ?_ | refine blk_alloc ?_ _)); refine blk_far ?_ NB282_298.out _; (with_reducible repeat (first | refine blk_drewN ?_ _ | refine blk_drew ?_ | refine blk_alloc ?_ _)); refine blk_far ?_ NB282_298.out _; (with_reducible repeat (first | refine blk_drewN ?_ _ | refine blk_drew ?_ | refine blk_alloc ?_ _)); refine blk_far ?_ NB282_298.out _; (with_reducible repeat (first | refine blk_drewN ?_ _ | refine blk_drew ?_ | refine blk_alloc ?_ _)); refine blk_far ?_ NB282_298.out _; (with_reducible repeat (first | refine blk_drewN ?_ _ | refine blk_drew ?_ | refine blk_alloc ?_ _)); exact BK282.out) hb); have n6_ := Aside0.mk (blk_below (g := gb286) (o := .cells #[.int .i64 t283, .int .i64 t284] 77 (0, 0)) (by (with_reducible repeat (first | refine blk_drewN ?_ _ | refine blk_drew ?_ | refine blk_alloc ?_ _)); refine blk_far ?_ NB286_298.out _; (with_reducible repeat (first | refine blk_drewN ?_ _ | refine blk_drew ?_ | refine blk_alloc ?_ _)); refine blk_far ?_ NB286_298.out _; (with_reducible repeat (first | refine blk_drewN ?_ _ | refine blk_drew ?_ | refine blk_alloc ?_ _)); refine blk_far ?_ NB286_298.out _; (with_reducible repeat (first | refine blk_drewN ?_ _ | refine blk_drew ?_ | refine blk_alloc ?_ _)); refine blk_far ?_ NB286_298.out _; (with_reducible repeat (first | refine blk_drewN ?_ _ | refine blk_drew ?_ | refine blk_alloc ?_ _)); refine blk_far ?_ NB286_298.out _; (with_reducible repeat (first | refine blk_drewN ?_ _ | refine blk_drew ?_ | refine blk_alloc ?_ _)); refine blk_far ?_ NB286_298.out _; (with_reducible repeat (first | refine blk_drewN ?_ _ | refine blk_drew ?_ | refine blk_alloc ?_ _)); exact BK286.out) hb); have n7_ := Aside0.mk (blk_below (g := gb290) (o := .cells #[.int .i64 t287, .int .i64 t288] 77 (0, 0)) (by (with_reducible repeat (first | refine blk_drewN ?_ _ | refine blk_drew ?_ | refine blk_alloc ?_ _)); refine blk_far ?_ NB290_298.out _; (with_reducible repeat (first | refine blk_drewN ?_ _ | refine blk_drew ?_ | refine blk_alloc ?_ _)); refine blk_far ?_ NB290_298.out _; (with_reducible repeat (first | refine blk_drewN ?_ _ | refine blk_drew ?_ | refine blk_alloc ?_ _)); refine blk_far ?_ NB290_298.out _; (with_reducible repeat (first | refine blk_drewN ?_ _ | refine blk_drew ?_ | refine blk_alloc ?_ _)); refine blk_far ?_ NB290_298.out _; (with_reducible repeat (first | refine blk_drewN ?_ _ | refine blk_drew ?_ | refine blk_alloc ?_ _)); refine blk_far ?_ NB290_298.out _; (with_reducible repeat (first | refine blk_drewN ?_ _ | refine blk_drew ?_ | refine blk_alloc ?_ _)); refine blk_far ?_ NB290_298.out _; (with_reducible repeat (first | refine blk_drewN ?_ _ | refine blk_drew ?_ | refine blk_alloc ?_ _)); exact BK290.out) hb); have n8_ := Aside0.mk (blk_below (g := gb298) (o := .cells #[.int .i64 t291, .int .i64 t292, .int .i64 t293, .int .i64 t294, .int .i64 t295, .int .i64 t296] 41 (0, 0)) (by (with_reducible repeat (first | refine blk_drewN ?_ _ | refine blk_drew ?_ | refine blk_alloc ?_ _)); refine blk_put (cs := #[.int .i64 t291, .int .i64 t292, .int .i64 t293, .int .i64 t294, .int .i64 t295, .int .i64 0]) ?_ 5 _ rfl; (with_reducible repeat (first | refine blk_drewN ?_ _ | refine blk_drew ?_ | refine blk_alloc ?_ _)); refine blk_put (cs := #[.int .i64 t291, .int .i64 t292, .int .i64 t293, .int .i64 t294, .int .i64 0, .int .i64 0]) ?_ 4 _ rfl; (with_reducible repeat (first | refine blk_drewN ?_ _ | refine blk_drew ?_ | refine blk_alloc ?_ _)); refine blk_put (cs := #[.int .i64 t291, .int .i64 t292, .int .i64 t293, .int .i64 0, .int .i64 0, .int .i64 0]) ?_ 3 _ rfl; (with_reducible repeat (first | refine blk_drewN ?_ _ | refine blk_drew ?_ | refine blk_alloc ?_ _)); refine blk_put (cs := #[.int .i64 t291, .int .i64 t292, .int .i64 0, .int .i64 0, .int .i64 0, .int .i64 0]) ?_ 2 _ rfl; (with_reducible repeat (first | refine blk_drewN ?_ _ | refine blk_drew ?_ | refine blk_alloc ?_ _)); refine blk_put (cs := #[.int .i64 t291, .int .i64 0, .int .i64 0, .int .i64 0, .int .i64 0, .int .i64 0]) ?_ 1 _ rfl; (with_reducible repeat (first | refine blk_drewN ?_ _ | refine blk_drew ?_ | refine blk_alloc ?_ _)); refine blk_put (cs := #[.int .i64 0, .int .i64 0, .int .i64 0, .int .i64 0, .int .i64 0, .int .i64 0]) ?_ 0 _ rfl; (with_reducible repeat (first | refine blk_drewN ?_ _ | refine blk_drew ?_ | refine blk_alloc ?_ _)); exact BK298.out) hb); have n9_ := Aside0.mk (below_step (by repeat (first | (with_reducible first | exact HB.out | apply below_alloc | apply pw_below_drewN | apply below_drew1 | refine below_set ?_ GE241.out | refine below_set ?_ GE274.out | refine below_set ?_ GE282.out | refine below_set ?_ GE286.out | refine below_set ?_ GE290.out | refine below_set ?_ GE298.out) | exact HB.out)) hb); clear HO_6; clear HO_12; clear HO_13; clear BK241; clear BK274; clear BK282; clear BK286; clear BK290; clear BK298; clear HB; have HO_6 := n0_; have HO_12 := n1_; have HO_13 := n2_; have BK241 := n3_; have BK274 := n4_; have BK282 := n5_; have BK286 := n6_; have BK290 := n7_; have BK298 := n8_; have HB := n9_; clear n0_ n1_ n2_ n3_ n4_ n5_ n6_ n7_ n8_ n9_; (try clear hb); (try clear hb2); (try clear hk); (try clear hi)) | ((with_reducible refine gate_dst (N := 27) rfl ?_); refine box_event ?hg (N := 27) ?hd (cs := #[.int .i64 0, .int .i64 0]) (t := 77) ?hr ?_; (case hd => rfl); (case hg => rfl); (case hr => first | (go_simp; done) | (go_simp; rfl)); intro gb302 hg w121 hbox hb; have n0_ := Aside0.mk (Kd.R_below (by (with_reducible repeat (first | apply Kd.R_alloc | apply Kd.R_drewN | apply Kd.R_drew)); exact HO_6.out) hb); have n1_ := Aside0.mk (Kd.V_below (Kd.V_elderB (by (with_reducible repeat (first | apply Kd.V_alloc | apply Kd.V_drewN | apply Kd.V_drew)); exact HO_12.out) gb302 (Nat.le_of_eq hg.symm)) hb); have n2_ := Aside0.mk (Kd.V_below (Kd.V_elderB (by (with_reducible repeat (first | apply Kd.V_alloc | apply Kd.V_drewN | apply Kd.V_drew)); exact HO_13.out) gb302 (Nat.le_of_eq hg.symm)) hb); have n3_ := Aside0.mk (blk_below (g := gb241) (o := .cells #[.int .i64 a1_0, .int .i64 a1_1, .int .i64 a1_2] 67 (0, 0)) (by (with_reducible repeat (first | refine blk_drewN ?_ _ | refine blk_drew ?_ | refine blk_alloc ?_ _)); exact BK241.out) hb); have n4_ := Aside0.mk (blk_below (g := gb274) (o := .cells #[.int .i64 t267, .int .i64 t268, .int .i64 t269, .int .i64 t270, .int .i64 t271, .int .i64 t272] 41 (0, 0)) (by (with_reducible repeat (first | refine blk_drewN ?_ _ | refine blk_drew ?_ | refine blk_alloc ?_ _)); exact BK274.out) hb); have n5_ := Aside0.mk (blk_below (g := gb282) (o := .cells #[.int .i64 t275, .int .i64 t276, .int .i64 t277, .int .i64 t278, .int .i64 t279, .int .i64 t280] 41 (0, 0)) (by (with_reducible repeat (first | refine blk_drewN ?_ _ | refine blk_drew ?_ | refine blk_alloc ?_ _)); exact BK282.out) hb); have n6_ := Aside0.mk (blk_below (g := gb286) (o := .cells #[.int .i64 t283, .int .i64 t284] 77 (0, 0)) (by (with_reducible repeat (first | refine blk_drewN ?_ _ | refine blk_drew ?_ | refine blk_alloc ?_ _)); exact BK286.out) hb); have n7_ := Aside0.mk (blk_below (g := gb290) (o := .cells #[.int .i64 t287, .int .i64 t288] 77 (0, 0)) (by (with_reducible repeat (first | refine blk_drewN ?_ _ | refine blk_drew ?_ | refine blk_alloc ?_ _)); exact BK290.out) hb); have n8_ := Aside0.mk (blk_below (g := gb298) (o := .cells #[.int .i64 t291, .int .i64 t292, .int .i64 t293, .int .i64 t294, .int .i64 t295, .int .i64 t296] 41 (0, 0)) (by (with_reducible repeat (first | refine blk_drewN ?_ _ | refine blk_drew ?_ | refine blk_alloc ?_ _)); exact BK298.out) hb); have n9_ := Aside0.mk (below_step (by repeat (first | (with_reducible first | exact HB.out | apply below_alloc | apply pw_below_drewN | apply below_drew1 | refine below_set ?_ GE241.out | refine below_set ?_ GE274.out | refine below_set ?_ GE282.out | refine below_set ?_ GE286.out | refine below_set ?_ GE290.out | refine below_set ?_ GE298.out) | exact HB.out)) hb); have n10_ := Aside0.mk (hbox); have n11_ := Aside0.mk ((by rw [hg]; exact (below_size (by repeat (first | (with_reducible first | exact HB.out | apply below_alloc | apply pw_below_drewN | apply below_drew1 | refine below_set ?_ GE241.out | refine below_set ?_ GE274.out | refine below_set ?_ GE282.out | refine below_set ?_ GE286.out | refine below_set ?_ GE290.out | refine below_set ?_ GE298.out) | exact HB.out))) : w.heap.size ≤ gb302)); have n12_ := Aside0.mk ((by rw [hg]; exact (below_size (by repeat (first | (with_reducible first | exact HB.out | apply below_alloc | apply pw_below_drewN | apply below_drew1 | refine below_set ?_ GE241.out | refine below_set ?_ GE274.out | refine below_set ?_ GE282.out | refine below_set ?_ GE286.out | refine below_set ?_ GE290.out | refine below_set ?_ GE298.out) | exact HB.out))) : w.heap.size ≤ gb302)); have n13_ := Aside0.mk ((by rw [hg]; exact Nat.ne_of_lt (blk_lt (g := gb241) (o := .cells #[.int .i64 a1_0, .int .i64 a1_1, .int .i64 a1_2] 67 (0, 0)) (by (with_reducible repeat (first | refine blk_drewN ?_ _ | refine blk_drew ?_ | refine blk_alloc ?_ _)); exact BK241.out)) : gb241 ≠ gb302)); have n14_ := Aside0.mk ((by rw [hg]; exact Nat.ne_of_gt (blk_lt (g := gb241) (o := .cells #[.int .i64 a1_0, .int .i64 a1_1, .int .i64 a1_2] 67 (0, 0)) (by (with_reducible repeat (first | refine blk_drewN ?_ _ | refine blk_drew ?_ | refine blk_alloc ?_ _)); exact BK241.out)) : gb302 ≠ gb241)); have n15_ := Aside0.mk ((by rw [hg]; exact Nat.ne_of_lt (blk_lt (g := gb274) (o := .cells #[.int .i64 t267, .int .i64 t268, .int .i64 t269, .int .i64 t270, .int .i64 t271, .int .i64 t272] 41 (0, 0)) (by (with_reducible repeat (first | refine blk_drewN ?_ _ | refine blk_drew ?_ | refine blk_alloc ?_ _)); exact BK274.out)) : gb274 ≠ gb302)); have n16_ := Aside0.mk ((by rw [hg]; exact Nat.ne_of_gt (blk_lt (g := gb274) (o := .cells #[.int .i64 t267, .int .i64 t268, .int .i64 t269, .int .i64 t270, .int .i64 t271, .int .i64 t272] 41 (0, 0)) (by (with_reducible repeat (first | refine blk_drewN ?_ _ | refine blk_drew ?_ | refine blk_alloc ?_ _)); exact BK274.out)) : gb302 ≠ gb274)); have n17_ := Aside0.mk ((by rw [hg]; exact Nat.ne_of_lt (blk_lt (g := gb282) (o := .cells #[.int .i64 t275, .int .i64 t276, .int .i64 t277, .int .i64 t278, .int .i64 t279, .int .i64 t280] 41 (0, 0)) (by (with_reducible repeat (first | refine blk_drewN ?_ _ | refine blk_drew ?_ | refine blk_alloc ?_ _)); exact BK282.out)) : gb282 ≠ gb302)); have n18_ := Aside0.mk ((by rw [hg]; exact Nat.ne_of_gt (blk_lt (g := gb282) (o := .cells #[.int .i64 t275, .int .i64 t276, .int .i64 t277, .int .i64 t278, .int .i64 t279, .int .i64 t280] 41 (0, 0)) (by (with_reducible repeat (first | refine blk_drewN ?_ _ | refine blk_drew ?_ | refine blk_alloc ?_ _)); exact BK282.out)) : gb302 ≠ gb282)); have n19_ := Aside0.mk ((by rw [hg]; exact Nat.ne_of_lt (blk_lt (g := gb286) (o := .cells #[.int .i64 t283, .int .i64 t284] 77 (0, 0)) (by (with_reducible repeat (first | refine blk_drewN ?_ _ | refine blk_drew ?_ | refine blk_alloc ?_ _)); exact BK286.out)) : gb286 ≠ gb302)); have n20_ := Aside0.mk ((by rw [hg]; exact Nat.ne_of_gt (blk_lt (g := gb286) (o := .cells #[.int .i64 t283, .int .i64 t284] 77 (0, 0)) (by (with_reducible repeat (first | refine blk_drewN ?_ _ | refine blk_drew ?_ | refine blk_alloc ?_ _)); exact BK286.out)) : gb302 ≠ gb286)); have n21_ := Aside0.mk ((by rw [hg]; exact Nat.ne_of_lt (blk_lt (g := gb290) (o := .cells #[.int .i64 t287, .int .i64 t288] 77 (0, 0)) (by (with_reducible repeat (first | refine blk_drewN ?_ _ | refine blk_drew ?_ | refine blk_alloc ?_ _)); exact BK290.out)) : gb290 ≠ gb302)); have n22_ := Aside0.mk ((by rw [hg]; exact Nat.ne_of_gt (blk_lt (g := gb290) (o := .cells #[.int .i64 t287, .int .i64 t288] 77 (0, 0)) (by (with_reducible repeat (first | refine blk_drewN ?_ _ | refine blk_drew ?_ | refine blk_alloc ?_ _)); exact BK290.out)) : gb302 ≠ gb290)); have n23_ := Aside0.mk ((by rw [hg]; exact Nat.ne_of_lt (blk_lt (g := gb298) (o := .cells #[.int .i64 t291, .int .i64 t292, .int .i64 t293, .int .i64 t294, .int .i64 t295, .int .i64 t296] 41 (0, 0)) (by (with_reducible repeat (first | refine blk_drewN ?_ _ | refine blk_drew ?_ | refine blk_alloc ?_ _)); exact BK298.out)) : gb298 ≠ gb302)); have n24_ := Aside0.mk ((by rw [hg]; exact Nat.ne_of_gt (blk_lt (g := gb298) (o := .cells #[.int .i64 t291, .int .i64 t292, .int .i64 t293, .int .i64 t294, .int .i64 t295, .int .i64 t296] 41 (0, 0)) (by (with_reducible repeat (first | refine blk_drewN ?_ _ | refine blk_drew ?_ | refine blk_alloc ?_ _)); exact BK298.out)) : gb302 ≠ gb298)); clear HO_6; clear HO_12; clear HO_13; clear BK241; clear BK274; clear BK282; clear BK286; clear BK290; clear BK298; clear HB; have HO_6 := n0_; have HO_12 := n1_; have HO_13 := n2_; have BK241 := n3_; have BK274 := n4_; have BK282 := n5_; have BK286 := n6_; have BK290 := n7_; have BK298 := n8_; have HB := n9_; have BK302 := n10_; have GW302 := n11_; have GE302 := n12_; have NB241_302 := n13_; have NB302_241 := n14_; have NB274_302 := n15_; have NB302_274 := n16_; have NB282_302 := n17_; have NB302_282 := n18_; have NB286_302 := n19_; have NB302_286 := n20_; have NB290_302 := n21_; have NB302_290 := n22_; have NB298_302 := n23_; have NB302_298 := n24_; clear n0_ n1_ n2_ n3_ n4_ n5_ n6_ n7_ n8_ n9_ n10_ n11_ n12_ n13_ n14_ n15_ n16_ n17_ n18_ n19_ n20_ n21_ n22_ n23_ n24_; clear hb hbox hg; have hnb122 := NB302_241.out; have hnc122 := NB241_302.out; have hnb123 := NB302_274.out; have hnc123 := NB274_302.out; have hnb124 := NB302_282.out; have hnc124 := NB282_302.out; have hnb125 := NB302_286.out; have hnc125 := NB286_302.out; have hnb126 := NB302_290.out; have hnc126 := NB290_302.out; have hnb127 := NB302_298.out; have hnc127 := NB298_302.out; have hcz128_0 : w121.cell? ⟨gb302, 0, none⟩ = some (.int .i64 0) := (blk_cell BK302.out 0).trans rfl; have hcz128_1 : w121.cell? ⟨gb302, 1, none⟩ = some (.int .i64 0) := (blk_cell BK302.out 1).trans rfl; have hfz128_0 := blk_frozen BK302.out 0; have hfz128_1 := blk_frozen BK302.out 1))
             (try simp only [Act.put, List.setIfInBounds_toArray, List.set_cons_zero, List.set_cons_succ])
             go_cut [29] (fun v29 wc => ∃ (kq : Nat) (x29_109 : Int), v29 = .int .i64 x29_109 ∧ Aside0 (flyleaflaw15_RegionKeeps.j6 kq t242 x6_1 (Go.bits .and .i64 a1_0 63) (Go.bits .and .i64 a1_1 63) t259 t262 t265 x15_3 t273 x20_29 t285 t297 t301 x29_109 a1_0 a1_1 a1_2 t267 t268 t269 t270 t271 t272 t283 t284 t291 t292 t293 t294 t295 t296 t299 t300 = some r) ∧ Aside0 (kq ≤ kj66) ∧ Aside0 (Kd.R k41 41 wc w.heap.size (fun k_ => k_ ≠ gb274 ∧ k_ ≠ gb282 ∧ k_ ≠ gb298) (.slice Ao23 x6_1.length co23) x6_1) ∧ Aside0 (Kd.V k41 41 wc w.heap.size (fun k_ => some k_ ≠ ((.slice Ao23 x6_1.length co23) : Value).ownBlock ∧ k_ ≠ gb241 ∧ k_ ≠ gb274 ∧ k_ ≠ gb282 ∧ k_ ≠ gb286 ∧ k_ ≠ gb290 ∧ k_ ≠ gb298 ∧ k_ ≠ gb302) (.slice Ao35 t259.length co35) t259) ∧ Aside0 (Kd.V k41 41 wc w.heap.size (fun k_ => some k_ ≠ ((.slice Ao23 x6_1.length co23) : Value).ownBlock ∧ k_ ≠ gb241 ∧ k_ ≠ gb274 ∧ k_ ≠ gb282 ∧ k_ ≠ gb286 ∧ k_ ≠ gb290 ∧ k_ ≠ gb298 ∧ k_ ≠ gb302) (.slice Ao111 t262.length co111) t262) ∧ Aside0 (wc.heap[gb241]? = some (.cells #[.int .i64 a1_0, .int .i64 a1_1, .int .i64 a1_2] 67 (0, 0))) ∧ Aside0 (wc.heap[gb274]? = some (.cells #[.int .i64 t267, .int .i64 t268, .int .i64 t269, .int .i64 t270, .int .i64 t271, .int .i64 t272] 41 (0, 0))) ∧ Aside0 (wc.heap[gb282]? = some (.cells #[.int .i64 t275, .int .i64 t276, .int .i64 t277, .int .i64 t278, .int .i64 t279, .int .i64 t280] 41 (0, 0))) ∧ Aside0 (wc.heap[gb286]? = some (.cells #[.int .i64 t283, .int .i64 t284] 77 (0, 0))) ∧ Aside0 (wc.heap[gb290]? = some (.cells #[.int .i64 t287, .int .i64 t288] 77 (0, 0))) ∧ Aside0 (wc.heap[gb298]? = some (.cells #[.int .i64 t291, .int .i64 t292, .int .i64 t293, .int .i64 t294, .int .i64 t295, .int .i64 t296] 41 (0, 0))) ∧ Aside0 (wc.heap[gb302]? = some (.cells #[.int .i64 t299, .int .i64 t300] 77 (0, 0))) ∧ Aside0 (Below w.heap.size w wc))
             case first =>
              as_aux_lemma =>
               have H := HC110.out
               clear HC110
               have H' := Aside0.mk H
               clear H
               have hnb129 := NB274_241.out
               have hnc129 := NB241_274.out
               have hnb130 := NB274_282.out
               have hnc130 := NB282_274.out
               have hnb131 := NB274_286.out
               have hnc131 := NB286_274.out
               have hnb132 := NB274_290.out
               have hnc132 := NB290_274.out
               have hnb133 := NB274_298.out
               have hnc133 := NB298_274.out
               have hnb134 := NB274_302.out
               have hnc134 := NB302_274.out
               have hcz135_0 : w121.cell? ⟨gb274, 0, none⟩ = some (.int .i64 t267) := (blk_cell BK274.out 0).trans rfl
               have hcz135_1 : w121.cell? ⟨gb274, 1, none⟩ = some (.int .i64 t268) := (blk_cell BK274.out 1).trans rfl
               have hcz135_2 : w121.cell? ⟨gb274, 2, none⟩ = some (.int .i64 t269) := (blk_cell BK274.out 2).trans rfl
               have hcz135_3 : w121.cell? ⟨gb274, 3, none⟩ = some (.int .i64 t270) := (blk_cell BK274.out 3).trans rfl
               have hcz135_4 : w121.cell? ⟨gb274, 4, none⟩ = some (.int .i64 t271) := (blk_cell BK274.out 4).trans rfl
               have hcz135_5 : w121.cell? ⟨gb274, 5, none⟩ = some (.int .i64 t272) := (blk_cell BK274.out 5).trans rfl
               have hfz135_0 := blk_frozen BK274.out 0
               have hfz135_1 := blk_frozen BK274.out 1
               have hfz135_2 := blk_frozen BK274.out 2
               have hfz135_3 := blk_frozen BK274.out 3
               have hfz135_4 := blk_frozen BK274.out 4
               have hfz135_5 := blk_frozen BK274.out 5
               go_wp2
               go_meet
               case rel => exact ⟨_, (t269), (by first | rfl | (simp; done) | (simp [*]; done)), H', ⟨by have := HK1.out; have := HJ5.out; have := HK3.out; have := HJ29.out; have := HJ41.out; have := HJ66.out; first | omega | exact Nat.le_refl _⟩, ⟨by (with_reducible repeat (first | apply Kd.R_alloc | apply Kd.R_drewN | apply Kd.R_drew)); exact Kd.R_mono (Kd.R_far (p := ⟨gb302, 1, none⟩) (Kd.R_far (p := ⟨gb302, 0, none⟩) (Kd.R_types HO_6.out BK302.out (by decide)) (fun _ hk => hk.2) (.int .i64 t299)) (fun _ hk => hk.2) (.int .i64 t300)) (fun _ hk => ⟨hk.1.1.1, ⟨hk.1.1.2, hk.1.2⟩⟩)⟩, ⟨by (with_reducible repeat (first | apply Kd.V_alloc | apply Kd.V_drewN | apply Kd.V_drew)); exact Kd.V_mono (Kd.V_far (p := ⟨gb302, 1, none⟩) (Kd.V_far (p := ⟨gb302, 0, none⟩) (Kd.V_mono HO_12.out (fun k_ hk => (⟨hk, hk.2⟩ : _ ∧ k_ ≠ gb302))) (fun _ hk => hk.2) (.int .i64 t299)) (fun _ hk => hk.2) (.int .i64 t300)) (fun _ hk => ⟨hk.1.1.1.1, ⟨hk.1.1.1.2.1, ⟨hk.1.1.1.2.2.1, ⟨hk.1.1.1.2.2.2.1, ⟨hk.1.1.1.2.2.2.2.1, ⟨hk.1.1.1.2.2.2.2.2, ⟨hk.1.1.2, hk.1.2⟩⟩⟩⟩⟩⟩⟩)⟩, ⟨by (with_reducible repeat (first | apply Kd.V_alloc | apply Kd.V_drewN | apply Kd.V_drew)); exact Kd.V_mono (Kd.V_far (p := ⟨gb302, 1, none⟩) (Kd.V_far (p := ⟨gb302, 0, none⟩) (Kd.V_mono HO_13.out (fun k_ hk => (⟨hk, hk.2⟩ : _ ∧ k_ ≠ gb302))) (fun _ hk => hk.2) (.int .i64 t299)) (fun _ hk => hk.2) (.int .i64 t300)) (fun _ hk => ⟨hk.1.1.1.1, ⟨hk.1.1.1.2.1, ⟨hk.1.1.1.2.2.1, ⟨hk.1.1.1.2.2.2.1, ⟨hk.1.1.1.2.2.2.2.1, ⟨hk.1.1.1.2.2.2.2.2, ⟨hk.1.1.2, hk.1.2⟩⟩⟩⟩⟩⟩⟩)⟩, ⟨by (with_reducible repeat (first | refine blk_drewN ?_ _ | refine blk_drew ?_ | refine blk_alloc ?_ _)); refine blk_far ?_ NB241_302.out _; (with_reducible repeat (first | refine blk_drewN ?_ _ | refine blk_drew ?_ | refine blk_alloc ?_ _)); refine blk_far ?_ NB241_302.out _; (with_reducible repeat (first | refine blk_drewN ?_ _ | refine blk_drew ?_ | refine blk_alloc ?_ _)); exact BK241.out⟩, ⟨by (with_reducible repeat (first | refine blk_drewN ?_ _ | refine blk_drew ?_ | refine blk_alloc ?_ _)); refine blk_far ?_ NB274_302.out _; (with_reducible repeat (first | refine blk_drewN ?_ _ | refine blk_drew ?_ | refine blk_alloc ?_ _)); refine blk_far ?_ NB274_302.out _; (with_reducible repeat (first | refine blk_drewN ?_ _ | refine blk_drew ?_ | refine blk_alloc ?_ _)); exact BK274.out⟩, ⟨by (with_reducible repeat (first | refine blk_drewN ?_ _ | refine blk_drew ?_ | refine blk_alloc ?_ _)); refine blk_far ?_ NB282_302.out _; (with_reducible repeat (first | refine blk_drewN ?_ _ | refine blk_drew ?_ | refine blk_alloc ?_ _)); refine blk_far ?_ NB282_302.out _; (with_reducible repeat (first | refine blk_drewN ?_ _ | refine blk_drew ?_ | refine blk_alloc ?_ _)); exact BK282.out⟩, ⟨by (with_reducible repeat (first | refine blk_drewN ?_ _ | refine blk_drew ?_ | refine blk_alloc ?_ _)); refine blk_far ?_ NB286_302.out _; (with_reducible repeat (first | refine blk_drewN ?_ _ | refine blk_drew ?_ | refine blk_alloc ?_ _)); refine blk_far ?_ NB286_302.out _; (with_reducible repeat (first | refine blk_drewN ?_ _ | refine blk_drew ?_ | refine blk_alloc ?_ _)); exact BK286.out⟩, ⟨by (with_reducible repeat (first | refine blk_drewN ?_ _ | refine blk_drew ?_ | refine blk_alloc ?_ _)); refine blk_far ?_ NB290_302.out _; (with_reducible repeat (first | refine blk_drewN ?_ _ | refine blk_drew ?_ | refine blk_alloc ?_ _)); refine blk_far ?_ NB290_302.out _; (with_reducible repeat (first | refine blk_drewN ?_ _ | refine blk_drew ?_ | refine blk_alloc ?_ _)); exact BK290.out⟩, ⟨by (with_reducible repeat (first | refine blk_drewN ?_ _ | refine blk_drew ?_ | refine blk_alloc ?_ _)); refine blk_far ?_ NB298_302.out _; (with_reducible repeat (first | refine blk_drewN ?_ _ | refine blk_drew ?_ | refine blk_alloc ?_ _)); refine blk_far ?_ NB298_302.out _; (with_reducible repeat (first | refine blk_drewN ?_ _ | refine blk_drew ?_ | refine blk_alloc ?_ _)); exact BK298.out⟩, ⟨by (with_reducible repeat (first | refine blk_drewN ?_ _ | refine blk_drew ?_ | refine blk_alloc ?_ _)); refine blk_put (cs := #[.int .i64 t299, .int .i64 0]) ?_ 1 _ rfl; (with_reducible repeat (first | refine blk_drewN ?_ _ | refine blk_drew ?_ | refine blk_alloc ?_ _)); refine blk_put (cs := #[.int .i64 0, .int .i64 0]) ?_ 0 _ rfl; (with_reducible repeat (first | refine blk_drewN ?_ _ | refine blk_drew ?_ | refine blk_alloc ?_ _)); exact BK302.out⟩, ⟨by repeat (first | (with_reducible first | exact HB.out | apply below_alloc | apply pw_below_drewN | apply below_drew1 | refine below_set ?_ GE241.out | refine below_set ?_ GE274.out | refine below_set ?_ GE282.out | refine below_set ?_ GE286.out | refine below_set ?_ GE290.out | refine below_set ?_ GE298.out | refine below_set ?_ GE302.out) | exact HB.out)⟩⟩
             case rest =>
              as_aux_lemma =>
               clear HC110
               try clear c1
               try clear c2
               try clear p2
               try clear q2
               try clear hx2
               try clear c3
               try clear c4
               try clear c5
               try clear c6
               try clear p6
               try clear c7
               try clear c7b0
               try clear c8
               try clear c9
               try clear c9b0
               try clear c10
               try clear c10b0
               try clear c11
               try clear c12
               try clear c13
               try clear c13b0
               try clear c13b1
               try clear c23
               try clear p24
               try clear q24
               try clear hx24
               try clear c27
               try clear c27b0
               try clear c33
               try clear c34
               try clear c35
               try clear c36
               try clear c37
               try clear c38
               try clear c39
               try clear c41
               try clear c41b0
               try clear c43
               try clear c44
               try clear c45
               try clear c45b0
               try clear c45b1
               try clear c45b2
               try clear c46
               try clear c47
               try clear c47b0
               try clear c47b1
               try clear c48
               try clear c48b0
               try clear c48b1
               try clear c49
               try clear c50
               try clear c52
               try clear c54
               try clear c55
               try clear c57
               try clear c59
               try clear c60
               try clear c62
               try clear c64
               try clear p64
               try clear c68
               try clear c69
               try clear c73
               try clear c74
               try clear c75
               try clear c77
               try clear c81
               try clear c82
               try clear c83
               try clear c84
               try clear c86
               try clear c87
               try clear c87b0
               try clear c88
               try clear c89
               try clear c90
               try clear c91
               try clear c93
               try clear c94
               try clear c95
               try clear c97
               try clear c98
               try clear c99
               try clear c100
               try clear c102
               try clear c103
               try clear c104
               try clear c106
               try clear c107
               try clear c107b0
               try clear c107b1
               try clear c114
               try clear c115
               try clear c116
               try clear c117
               try clear c118
               try clear c122
               try clear c123
               try clear c124
               try clear c125
               try clear c126
               try clear c127
               try clear c129
               try clear c130
               try clear c131
               try clear c132
               try clear c133
               try clear c134
               try clear hcz101_0
               try clear hcz101_1
               try clear hcz105_0
               try clear hcz105_1
               try clear hcz119_0
               try clear hcz119_1
               try clear hcz119_2
               try clear hcz119_3
               try clear hcz119_4
               try clear hcz119_5
               try clear hcz128_0
               try clear hcz128_1
               try clear hcz135_0
               try clear hcz135_1
               try clear hcz135_2
               try clear hcz135_3
               try clear hcz135_4
               try clear hcz135_5
               try clear hcz22_0
               try clear hcz22_1
               try clear hcz22_2
               try clear hcz25_0
               try clear hcz25_1
               try clear hcz25_2
               try clear hcz34_0
               try clear hcz34_1
               try clear hcz34_2
               try clear hcz34_3
               try clear hcz34_4
               try clear hcz34_5
               try clear hcz40_0
               try clear hcz40_1
               try clear hcz40_2
               try clear hcz40_3
               try clear hcz40_4
               try clear hcz40_5
               try clear hcz51_0
               try clear hcz51_1
               try clear hcz51_2
               try clear hcz51_3
               try clear hcz51_4
               try clear hcz51_5
               try clear hcz53_0
               try clear hcz53_1
               try clear hcz53_2
               try clear hcz53_3
               try clear hcz53_4
               try clear hcz53_5
               try clear hcz56_0
               try clear hcz56_1
               try clear hcz56_2
               try clear hcz56_3
               try clear hcz56_4
               try clear hcz56_5
               try clear hcz58_0
               try clear hcz58_1
               try clear hcz58_2
               try clear hcz58_3
               try clear hcz58_4
               try clear hcz58_5
               try clear hcz61_0
               try clear hcz61_1
               try clear hcz61_2
               try clear hcz61_3
               try clear hcz61_4
               try clear hcz61_5
               try clear hcz63_0
               try clear hcz63_1
               try clear hcz63_2
               try clear hcz63_3
               try clear hcz63_4
               try clear hcz63_5
               try clear hcz70_0
               try clear hcz70_1
               try clear hcz70_2
               try clear hcz70_3
               try clear hcz70_4
               try clear hcz70_5
               try clear hcz76_0
               try clear hcz76_1
               try clear hcz78_0
               try clear hcz78_1
               try clear hcz78_2
               try clear hcz78_3
               try clear hcz78_4
               try clear hcz78_5
               try clear hcz85_0
               try clear hcz85_1
               try clear hcz92_0
               try clear hcz92_1
               try clear hcz96_0
               try clear hcz96_1
               try clear hfz101_0
               try clear hfz101_1
               try clear hfz105_0
               try clear hfz105_1
               try clear hfz119_0
               try clear hfz119_1
               try clear hfz119_2
               try clear hfz119_3
               try clear hfz119_4
               try clear hfz119_5
               try clear hfz128_0
               try clear hfz128_1
               try clear hfz135_0
               try clear hfz135_1
               try clear hfz135_2
               try clear hfz135_3
               try clear hfz135_4
               try clear hfz135_5
               try clear hfz22_0
               try clear hfz22_1
               try clear hfz22_2
               try clear hfz25_0
               try clear hfz25_1
               try clear hfz25_2
               try clear hfz34_0
               try clear hfz34_1
               try clear hfz34_2
               try clear hfz34_3
               try clear hfz34_4
               try clear hfz34_5
               try clear hfz40_0
               try clear hfz40_1
               try clear hfz40_2
               try clear hfz40_3
               try clear hfz40_4
               try clear hfz40_5
               try clear hfz51_0
               try clear hfz51_1
               try clear hfz51_2
               try clear hfz51_3
               try clear hfz51_4
               try clear hfz51_5
               try clear hfz53_0
               try clear hfz53_1
               try clear hfz53_2
               try clear hfz53_3
               try clear hfz53_4
               try clear hfz53_5
               try clear hfz56_0
               try clear hfz56_1
               try clear hfz56_2
               try clear hfz56_3
               try clear hfz56_4
               try clear hfz56_5
               try clear hfz58_0
               try clear hfz58_1
               try clear hfz58_2
               try clear hfz58_3
               try clear hfz58_4
               try clear hfz58_5
               try clear hfz61_0
               try clear hfz61_1
               try clear hfz61_2
               try clear hfz61_3
               try clear hfz61_4
               try clear hfz61_5
               try clear hfz63_0
               try clear hfz63_1
               try clear hfz63_2
               try clear hfz63_3
               try clear hfz63_4
               try clear hfz63_5
               try clear hfz70_0
               try clear hfz70_1
               try clear hfz70_2
               try clear hfz70_3
               try clear hfz70_4
               try clear hfz70_5
               try clear hfz76_0
               try clear hfz76_1
               try clear hfz78_0
               try clear hfz78_1
               try clear hfz78_2
               try clear hfz78_3
               try clear hfz78_4
               try clear hfz78_5
               try clear hfz85_0
               try clear hfz85_1
               try clear hfz92_0
               try clear hfz92_1
               try clear hfz96_0
               try clear hfz96_1
               try clear hx243_0
               try clear hx243_1
               try clear hx243_10
               try clear hx243_2
               try clear hx243_3
               try clear hx243_4
               try clear hx243_5
               try clear hx243_6
               try clear hx243_7
               try clear hx243_8
               try clear hx243_9
               try clear p2
               try clear p24
               try clear p243
               try clear p6
               try clear q2
               try clear q24
               try clear q243
               obtain ⟨kq, x29_109, rfl, HA, HJ109, HO_6, HO_12, HO_13, BK241, BK274, BK282, BK286, BK290, BK298, BK302, HB⟩ := hcut
               cases kq with
               | zero => exact absurd HA.out (by simp [flyleaflaw15_RegionKeeps.j6])
               | succ kj109 =>
                have H := HA.out
                clear HA
                simp only [flyleaflaw15_RegionKeeps.j6] at H
                by_cases c136 : x20_29 = true
                rotate_left
                · replace c136 := Bool.eq_false_iff.mpr c136
                  subst c136
                  have H1 : (if (t297 != t273) = true then (some false) else (if t273 = true then (if t293 = x29_109 then (if t294 = t270 then (if (!(t283 == t299) || (!(t284 == t300))) = true then (some false) else (if (t285 != t301) = true then (some false) else (flyleaflaw15_RegionKeeps.l1 kj109 t242 x6_1 (Go.bits .and .i64 a1_0 63) (Go.bits .and .i64 a1_1 63) t259 t262 t265 (wrap64 (x15_3 + 1)) a1_0 a1_1 a1_2))) else (some false)) else (some false)) else (flyleaflaw15_RegionKeeps.l1 kj109 t242 x6_1 (Go.bits .and .i64 a1_0 63) (Go.bits .and .i64 a1_1 63) t259 t262 t265 (wrap64 (x15_3 + 1)) a1_0 a1_1 a1_2))) = some r := by rw [if_neg (show ¬ (false = true) by decide)] at H; exact H
                  clear H
                  have H := H1
                  clear H1
                  by_cases c263 : (t297 != t273) = true
                  · rw [if_pos c263] at H
                    have c263b0 : (t297 != t273) = true := c263
                    (try (have c263b1 : decide (t297 = t273) = false := by simpa using c263))
                    (try (have c263b2 : (t297 == t273) = false := by simpa using c263))
                    (try (have c263b3 : ¬ (t297 = t273) := by simpa using c263))
                    clear c263
                    obtain rfl := Option.some.inj H
                    go_wp2
                    go_ret
                    exact ⟨by first | rfl | (simp [errW_none, errW_some] <;> rfl) | (simp [*, errW_none, errW_some] <;> rfl), by repeat (first | (with_reducible first | exact HB.out | apply below_alloc | apply pw_below_drewN | apply below_drew1 | refine below_set ?_ GE241.out | refine below_set ?_ GE274.out | refine below_set ?_ GE282.out | refine below_set ?_ GE286.out | refine below_set ?_ GE290.out | refine below_set ?_ GE298.out | refine below_set ?_ GE302.out) | exact HB.out)⟩
                  rw [if_neg c263] at H
                  have c263b0 : (t297 != t273) = false := by simpa using c263
                  (try (have c263b1 : decide (t297 = t273) = true := by simpa using c263))
                  (try (have c263b2 : (t297 == t273) = true := by simpa using c263))
                  clear c263
                  by_cases c264 : t273 = true
                  rotate_left
                  · replace c264 := Bool.eq_false_iff.mpr c264
                    subst c264
                    have H1 : (flyleaflaw15_RegionKeeps.l1 kj109 t242 x6_1 (Go.bits .and .i64 a1_0 63) (Go.bits .and .i64 a1_1 63) t259 t262 t265 (wrap64 (x15_3 + 1)) a1_0 a1_1 a1_2) = some r := by rw [if_neg (show ¬ (false = true) by decide)] at H; exact H
                    clear H
                    have H := H1
                    clear H1
                    have H' := Aside0.mk H
                    clear H
                    go_wp2
                    go_roundg kj109
                    case measure => have := HK1.out; have := HJ5.out; have := HK3.out; have := HJ29.out; have := HJ41.out; have := HJ66.out; have := HJ109.out; omega
                    case rel => exact ⟨(wrap64 (x15_3 + 1)), (by first | rfl | (simp; done) | (simp [*]; done)), H', ⟨by have := HK1.out; have := HJ5.out; have := HK3.out; have := HJ29.out; have := HJ41.out; have := HJ66.out; have := HJ109.out; omega⟩, ⟨by (with_reducible repeat (first | apply Kd.R_alloc | apply Kd.R_drewN | apply Kd.R_drew)); exact Kd.R_mono HO_6.out (fun _ hk => trivial)⟩, ⟨by (with_reducible repeat (first | apply Kd.V_alloc | apply Kd.V_drewN | apply Kd.V_drew)); exact Kd.V_mono HO_12.out (fun _ hk => ⟨hk.1, hk.2.1⟩)⟩, ⟨by (with_reducible repeat (first | apply Kd.V_alloc | apply Kd.V_drewN | apply Kd.V_drew)); exact Kd.V_mono HO_13.out (fun _ hk => ⟨hk.1, hk.2.1⟩)⟩, ⟨by (with_reducible repeat (first | refine blk_drewN ?_ _ | refine blk_drew ?_ | refine blk_alloc ?_ _)); exact BK241.out⟩, ⟨by repeat (first | (with_reducible first | exact HB.out | apply below_alloc | apply pw_below_drewN | apply below_drew1 | refine below_set ?_ GE241.out | refine below_set ?_ GE274.out | refine below_set ?_ GE282.out | refine below_set ?_ GE286.out | refine below_set ?_ GE290.out | refine below_set ?_ GE298.out | refine below_set ?_ GE302.out) | exact HB.out)⟩⟩
                  subst c264
                  have H1 : (if t293 = x29_109 then (if t294 = t270 then (if (!(t283 == t299) || (!(t284 == t300))) = true then (some false) else (if (t285 != t301) = true then (some false) else (flyleaflaw15_RegionKeeps.l1 kj109 t242 x6_1 (Go.bits .and .i64 a1_0 63) (Go.bits .and .i64 a1_1 63) t259 t262 t265 (wrap64 (x15_3 + 1)) a1_0 a1_1 a1_2))) else (some false)) else (some false)) = some r := by rw [if_pos rfl] at H; exact H
                  clear H
                  have H := H1
                  clear H1
                  by_cases c265 : t293 = x29_109
                  rotate_left
                  · rw [if_neg c265] at H
                    have c265b0 : (t293 == x29_109) = false := beq_eq_false_iff_ne.mpr c265
                    have c265b1 : (t293 != x29_109) = true := bne_iff_ne.mpr c265
                    obtain rfl := Option.some.inj H
                    have hnb348 := NB298_241.out
                    have hnc348 := NB241_298.out
                    have hnb349 := NB298_274.out
                    have hnc349 := NB274_298.out
                    have hnb350 := NB298_282.out
                    have hnc350 := NB282_298.out
                    have hnb351 := NB298_286.out
                    have hnc351 := NB286_298.out
                    have hnb352 := NB298_290.out
                    have hnc352 := NB290_298.out
                    have hnb353 := NB298_302.out
                    have hnc353 := NB302_298.out
                    have hcz354_0 : wc.cell? ⟨gb298, 0, none⟩ = some (.int .i64 t291) := (blk_cell BK298.out 0).trans rfl
                    have hcz354_1 : wc.cell? ⟨gb298, 1, none⟩ = some (.int .i64 t292) := (blk_cell BK298.out 1).trans rfl
                    have hcz354_2 : wc.cell? ⟨gb298, 2, none⟩ = some (.int .i64 t293) := (blk_cell BK298.out 2).trans rfl
                    have hcz354_3 : wc.cell? ⟨gb298, 3, none⟩ = some (.int .i64 t294) := (blk_cell BK298.out 3).trans rfl
                    have hcz354_4 : wc.cell? ⟨gb298, 4, none⟩ = some (.int .i64 t295) := (blk_cell BK298.out 4).trans rfl
                    have hcz354_5 : wc.cell? ⟨gb298, 5, none⟩ = some (.int .i64 t296) := (blk_cell BK298.out 5).trans rfl
                    have hfz354_0 := blk_frozen BK298.out 0
                    have hfz354_1 := blk_frozen BK298.out 1
                    have hfz354_2 := blk_frozen BK298.out 2
                    have hfz354_3 := blk_frozen BK298.out 3
                    have hfz354_4 := blk_frozen BK298.out 4
                    have hfz354_5 := blk_frozen BK298.out 5
                    go_wp2
                    go_ret
                    exact ⟨by first | rfl | (simp [errW_none, errW_some] <;> rfl) | (simp [*, errW_none, errW_some] <;> rfl), by repeat (first | (with_reducible first | exact HB.out | apply below_alloc | apply pw_below_drewN | apply below_drew1 | refine below_set ?_ GE241.out | refine below_set ?_ GE274.out | refine below_set ?_ GE282.out | refine below_set ?_ GE286.out | refine below_set ?_ GE290.out | refine below_set ?_ GE298.out | refine below_set ?_ GE302.out) | exact HB.out)⟩
                  rw [if_pos c265] at H
                  have c265b0 : (t293 == x29_109) = true := beq_iff_eq.mpr c265
                  have c265b1 : (t293 != x29_109) = false := bne_eq_false_iff_eq.mpr c265
                  clear c265
                  by_cases c266 : t294 = t270
                  rotate_left
                  · rw [if_neg c266] at H
                    have c266b0 : (t294 == t270) = false := beq_eq_false_iff_ne.mpr c266
                    have c266b1 : (t294 != t270) = true := bne_iff_ne.mpr c266
                    obtain rfl := Option.some.inj H
                    have hnb335 := NB298_241.out
                    have hnc335 := NB241_298.out
                    have hnb336 := NB298_274.out
                    have hnc336 := NB274_298.out
                    have hnb337 := NB298_282.out
                    have hnc337 := NB282_298.out
                    have hnb338 := NB298_286.out
                    have hnc338 := NB286_298.out
                    have hnb339 := NB298_290.out
                    have hnc339 := NB290_298.out
                    have hnb340 := NB298_302.out
                    have hnc340 := NB302_298.out
                    have hcz341_0 : wc.cell? ⟨gb298, 0, none⟩ = some (.int .i64 t291) := (blk_cell BK298.out 0).trans rfl
                    have hcz341_1 : wc.cell? ⟨gb298, 1, none⟩ = some (.int .i64 t292) := (blk_cell BK298.out 1).trans rfl
                    have hcz341_2 : wc.cell? ⟨gb298, 2, none⟩ = some (.int .i64 t293) := (blk_cell BK298.out 2).trans rfl
                    have hcz341_3 : wc.cell? ⟨gb298, 3, none⟩ = some (.int .i64 t294) := (blk_cell BK298.out 3).trans rfl
                    have hcz341_4 : wc.cell? ⟨gb298, 4, none⟩ = some (.int .i64 t295) := (blk_cell BK298.out 4).trans rfl
                    have hcz341_5 : wc.cell? ⟨gb298, 5, none⟩ = some (.int .i64 t296) := (blk_cell BK298.out 5).trans rfl
                    have hfz341_0 := blk_frozen BK298.out 0
                    have hfz341_1 := blk_frozen BK298.out 1
                    have hfz341_2 := blk_frozen BK298.out 2
                    have hfz341_3 := blk_frozen BK298.out 3
                    have hfz341_4 := blk_frozen BK298.out 4
                    have hfz341_5 := blk_frozen BK298.out 5
                    have hnb342 := NB274_241.out
                    have hnc342 := NB241_274.out
                    have hnb343 := NB274_282.out
                    have hnc343 := NB282_274.out
                    have hnb344 := NB274_286.out
                    have hnc344 := NB286_274.out
                    have hnb345 := NB274_290.out
                    have hnc345 := NB290_274.out
                    have hnb346 := NB274_302.out
                    have hnc346 := NB302_274.out
                    have hcz347_0 : wc.cell? ⟨gb274, 0, none⟩ = some (.int .i64 t267) := (blk_cell BK274.out 0).trans rfl
                    have hcz347_1 : wc.cell? ⟨gb274, 1, none⟩ = some (.int .i64 t268) := (blk_cell BK274.out 1).trans rfl
                    have hcz347_2 : wc.cell? ⟨gb274, 2, none⟩ = some (.int .i64 t269) := (blk_cell BK274.out 2).trans rfl
                    have hcz347_3 : wc.cell? ⟨gb274, 3, none⟩ = some (.int .i64 t270) := (blk_cell BK274.out 3).trans rfl
                    have hcz347_4 : wc.cell? ⟨gb274, 4, none⟩ = some (.int .i64 t271) := (blk_cell BK274.out 4).trans rfl
                    have hcz347_5 : wc.cell? ⟨gb274, 5, none⟩ = some (.int .i64 t272) := (blk_cell BK274.out 5).trans rfl
                    have hfz347_0 := blk_frozen BK274.out 0
                    have hfz347_1 := blk_frozen BK274.out 1
                    have hfz347_2 := blk_frozen BK274.out 2
                    have hfz347_3 := blk_frozen BK274.out 3
                    have hfz347_4 := blk_frozen BK274.out 4
                    have hfz347_5 := blk_frozen BK274.out 5
                    go_wp2
                    go_ret
                    exact ⟨by first | rfl | (simp [errW_none, errW_some] <;> rfl) | (simp [*, errW_none, errW_some] <;> rfl), by repeat (first | (with_reducible first | exact HB.out | apply below_alloc | apply pw_below_drewN | apply below_drew1 | refine below_set ?_ GE241.out | refine below_set ?_ GE274.out | refine below_set ?_ GE282.out | refine below_set ?_ GE286.out | refine below_set ?_ GE290.out | refine below_set ?_ GE298.out | refine below_set ?_ GE302.out) | exact HB.out)⟩
                  rw [if_pos c266] at H
                  have c266b0 : (t294 == t270) = true := beq_iff_eq.mpr c266
                  have c266b1 : (t294 != t270) = false := bne_eq_false_iff_eq.mpr c266
                  clear c266
                  by_cases c267 : (!(t283 == t299) || (!(t284 == t300))) = true
                  · rw [if_pos c267] at H
                    have c267b0 : (!(t283 == t299) || (!(t284 == t300))) = true := c267
                    clear c267
                    obtain rfl := Option.some.inj H
                    have hnb268 := NB298_241.out
                    have hnc268 := NB241_298.out
                    have hnb269 := NB298_274.out
                    have hnc269 := NB274_298.out
                    have hnb270 := NB298_282.out
                    have hnc270 := NB282_298.out
                    have hnb271 := NB298_286.out
                    have hnc271 := NB286_298.out
                    have hnb272 := NB298_290.out
                    have hnc272 := NB290_298.out
                    have hnb273 := NB298_302.out
                    have hnc273 := NB302_298.out
                    have hcz274_0 : wc.cell? ⟨gb298, 0, none⟩ = some (.int .i64 t291) := (blk_cell BK298.out 0).trans rfl
                    have hcz274_1 : wc.cell? ⟨gb298, 1, none⟩ = some (.int .i64 t292) := (blk_cell BK298.out 1).trans rfl
                    have hcz274_2 : wc.cell? ⟨gb298, 2, none⟩ = some (.int .i64 t293) := (blk_cell BK298.out 2).trans rfl
                    have hcz274_3 : wc.cell? ⟨gb298, 3, none⟩ = some (.int .i64 t294) := (blk_cell BK298.out 3).trans rfl
                    have hcz274_4 : wc.cell? ⟨gb298, 4, none⟩ = some (.int .i64 t295) := (blk_cell BK298.out 4).trans rfl
                    have hcz274_5 : wc.cell? ⟨gb298, 5, none⟩ = some (.int .i64 t296) := (blk_cell BK298.out 5).trans rfl
                    have hfz274_0 := blk_frozen BK298.out 0
                    have hfz274_1 := blk_frozen BK298.out 1
                    have hfz274_2 := blk_frozen BK298.out 2
                    have hfz274_3 := blk_frozen BK298.out 3
                    have hfz274_4 := blk_frozen BK298.out 4
                    have hfz274_5 := blk_frozen BK298.out 5
                    have hnb275 := NB274_241.out
                    have hnc275 := NB241_274.out
                    have hnb276 := NB274_282.out
                    have hnc276 := NB282_274.out
                    have hnb277 := NB274_286.out
                    have hnc277 := NB286_274.out
                    have hnb278 := NB274_290.out
                    have hnc278 := NB290_274.out
                    have hnb279 := NB274_302.out
                    have hnc279 := NB302_274.out
                    have hcz280_0 : wc.cell? ⟨gb274, 0, none⟩ = some (.int .i64 t267) := (blk_cell BK274.out 0).trans rfl
                    have hcz280_1 : wc.cell? ⟨gb274, 1, none⟩ = some (.int .i64 t268) := (blk_cell BK274.out 1).trans rfl
                    have hcz280_2 : wc.cell? ⟨gb274, 2, none⟩ = some (.int .i64 t269) := (blk_cell BK274.out 2).trans rfl
                    have hcz280_3 : wc.cell? ⟨gb274, 3, none⟩ = some (.int .i64 t270) := (blk_cell BK274.out 3).trans rfl
                    have hcz280_4 : wc.cell? ⟨gb274, 4, none⟩ = some (.int .i64 t271) := (blk_cell BK274.out 4).trans rfl
                    have hcz280_5 : wc.cell? ⟨gb274, 5, none⟩ = some (.int .i64 t272) := (blk_cell BK274.out 5).trans rfl
                    have hfz280_0 := blk_frozen BK274.out 0
                    have hfz280_1 := blk_frozen BK274.out 1
                    have hfz280_2 := blk_frozen BK274.out 2
                    have hfz280_3 := blk_frozen BK274.out 3
                    have hfz280_4 := blk_frozen BK274.out 4
                    have hfz280_5 := blk_frozen BK274.out 5
                    have hnb281 := NB286_241.out
                    have hnc281 := NB241_286.out
                    have hnb282 := NB286_282.out
                    have hnc282 := NB282_286.out
                    have hnb283 := NB286_290.out
                    have hnc283 := NB290_286.out
                    have hnb284 := NB286_302.out
                    have hnc284 := NB302_286.out
                    have hcz285_0 : wc.cell? ⟨gb286, 0, none⟩ = some (.int .i64 t283) := (blk_cell BK286.out 0).trans rfl
                    have hcz285_1 : wc.cell? ⟨gb286, 1, none⟩ = some (.int .i64 t284) := (blk_cell BK286.out 1).trans rfl
                    have hfz285_0 := blk_frozen BK286.out 0
                    have hfz285_1 := blk_frozen BK286.out 1
                    have hnb286 := NB302_241.out
                    have hnc286 := NB241_302.out
                    have hnb287 := NB302_282.out
                    have hnc287 := NB282_302.out
                    have hnb288 := NB302_290.out
                    have hnc288 := NB290_302.out
                    have hcz289_0 : wc.cell? ⟨gb302, 0, none⟩ = some (.int .i64 t299) := (blk_cell BK302.out 0).trans rfl
                    have hcz289_1 : wc.cell? ⟨gb302, 1, none⟩ = some (.int .i64 t300) := (blk_cell BK302.out 1).trans rfl
                    have hfz289_0 := blk_frozen BK302.out 0
                    have hfz289_1 := blk_frozen BK302.out 1
                    go_wp2
                    go_ret
                    exact ⟨by first | rfl | (simp [errW_none, errW_some] <;> rfl) | (simp [*, errW_none, errW_some] <;> rfl), by repeat (first | (with_reducible first | exact HB.out | apply below_alloc | apply pw_below_drewN | apply below_drew1 | refine below_set ?_ GE241.out | refine below_set ?_ GE274.out | refine below_set ?_ GE282.out | refine below_set ?_ GE286.out | refine below_set ?_ GE290.out | refine below_set ?_ GE298.out | refine below_set ?_ GE302.out) | exact HB.out)⟩
                  rw [if_neg c267] at H
                  have c267b0 : (!(t283 == t299) || (!(t284 == t300))) = false := by simpa using c267
                  clear c267
                  by_cases c290 : (t285 != t301) = true
                  · rw [if_pos c290] at H
                    have c290b0 : (t285 != t301) = true := c290
                    (try (have c290b1 : decide (t285 = t301) = false := by simpa using c290))
                    (try (have c290b2 : (t285 == t301) = false := by simpa using c290))
                    (try (have c290b3 : ¬ (t285 = t301) := by simpa using c290))
                    clear c290
                    obtain rfl := Option.some.inj H
                    have hnb291 := NB298_241.out
                    have hnc291 := NB241_298.out
                    have hnb292 := NB298_274.out
                    have hnc292 := NB274_298.out
                    have hnb293 := NB298_282.out
                    have hnc293 := NB282_298.out
                    have hnb294 := NB298_286.out
                    have hnc294 := NB286_298.out
                    have hnb295 := NB298_290.out
                    have hnc295 := NB290_298.out
                    have hnb296 := NB298_302.out
                    have hnc296 := NB302_298.out
                    have hcz297_0 : wc.cell? ⟨gb298, 0, none⟩ = some (.int .i64 t291) := (blk_cell BK298.out 0).trans rfl
                    have hcz297_1 : wc.cell? ⟨gb298, 1, none⟩ = some (.int .i64 t292) := (blk_cell BK298.out 1).trans rfl
                    have hcz297_2 : wc.cell? ⟨gb298, 2, none⟩ = some (.int .i64 t293) := (blk_cell BK298.out 2).trans rfl
                    have hcz297_3 : wc.cell? ⟨gb298, 3, none⟩ = some (.int .i64 t294) := (blk_cell BK298.out 3).trans rfl
                    have hcz297_4 : wc.cell? ⟨gb298, 4, none⟩ = some (.int .i64 t295) := (blk_cell BK298.out 4).trans rfl
                    have hcz297_5 : wc.cell? ⟨gb298, 5, none⟩ = some (.int .i64 t296) := (blk_cell BK298.out 5).trans rfl
                    have hfz297_0 := blk_frozen BK298.out 0
                    have hfz297_1 := blk_frozen BK298.out 1
                    have hfz297_2 := blk_frozen BK298.out 2
                    have hfz297_3 := blk_frozen BK298.out 3
                    have hfz297_4 := blk_frozen BK298.out 4
                    have hfz297_5 := blk_frozen BK298.out 5
                    have hnb298 := NB274_241.out
                    have hnc298 := NB241_274.out
                    have hnb299 := NB274_282.out
                    have hnc299 := NB282_274.out
                    have hnb300 := NB274_286.out
                    have hnc300 := NB286_274.out
                    have hnb301 := NB274_290.out
                    have hnc301 := NB290_274.out
                    have hnb302 := NB274_302.out
                    have hnc302 := NB302_274.out
                    have hcz303_0 : wc.cell? ⟨gb274, 0, none⟩ = some (.int .i64 t267) := (blk_cell BK274.out 0).trans rfl
                    have hcz303_1 : wc.cell? ⟨gb274, 1, none⟩ = some (.int .i64 t268) := (blk_cell BK274.out 1).trans rfl
                    have hcz303_2 : wc.cell? ⟨gb274, 2, none⟩ = some (.int .i64 t269) := (blk_cell BK274.out 2).trans rfl
                    have hcz303_3 : wc.cell? ⟨gb274, 3, none⟩ = some (.int .i64 t270) := (blk_cell BK274.out 3).trans rfl
                    have hcz303_4 : wc.cell? ⟨gb274, 4, none⟩ = some (.int .i64 t271) := (blk_cell BK274.out 4).trans rfl
                    have hcz303_5 : wc.cell? ⟨gb274, 5, none⟩ = some (.int .i64 t272) := (blk_cell BK274.out 5).trans rfl
                    have hfz303_0 := blk_frozen BK274.out 0
                    have hfz303_1 := blk_frozen BK274.out 1
                    have hfz303_2 := blk_frozen BK274.out 2
                    have hfz303_3 := blk_frozen BK274.out 3
                    have hfz303_4 := blk_frozen BK274.out 4
                    have hfz303_5 := blk_frozen BK274.out 5
                    have hnb304 := NB286_241.out
                    have hnc304 := NB241_286.out
                    have hnb305 := NB286_282.out
                    have hnc305 := NB282_286.out
                    have hnb306 := NB286_290.out
                    have hnc306 := NB290_286.out
                    have hnb307 := NB286_302.out
                    have hnc307 := NB302_286.out
                    have hcz308_0 : wc.cell? ⟨gb286, 0, none⟩ = some (.int .i64 t283) := (blk_cell BK286.out 0).trans rfl
                    have hcz308_1 : wc.cell? ⟨gb286, 1, none⟩ = some (.int .i64 t284) := (blk_cell BK286.out 1).trans rfl
                    have hfz308_0 := blk_frozen BK286.out 0
                    have hfz308_1 := blk_frozen BK286.out 1
                    have hnb309 := NB302_241.out
                    have hnc309 := NB241_302.out
                    have hnb310 := NB302_282.out
                    have hnc310 := NB282_302.out
                    have hnb311 := NB302_290.out
                    have hnc311 := NB290_302.out
                    have hcz312_0 : wc.cell? ⟨gb302, 0, none⟩ = some (.int .i64 t299) := (blk_cell BK302.out 0).trans rfl
                    have hcz312_1 : wc.cell? ⟨gb302, 1, none⟩ = some (.int .i64 t300) := (blk_cell BK302.out 1).trans rfl
                    have hfz312_0 := blk_frozen BK302.out 0
                    have hfz312_1 := blk_frozen BK302.out 1
                    go_wp2
                    go_ret
                    exact ⟨by first | rfl | (simp [errW_none, errW_some] <;> rfl) | (simp [*, errW_none, errW_some] <;> rfl), by repeat (first | (with_reducible first | exact HB.out | apply below_alloc | apply pw_below_drewN | apply below_drew1 | refine below_set ?_ GE241.out | refine below_set ?_ GE274.out | refine below_set ?_ GE282.out | refine below_set ?_ GE286.out | refine below_set ?_ GE290.out | refine below_set ?_ GE298.out | refine below_set ?_ GE302.out) | exact HB.out)⟩
                  rw [if_neg c290] at H
                  have c290b0 : (t285 != t301) = false := by simpa using c290
                  (try (have c290b1 : decide (t285 = t301) = true := by simpa using c290))
                  (try (have c290b2 : (t285 == t301) = true := by simpa using c290))
                  clear c290
                  have H' := Aside0.mk H
                  clear H
                  have hnb313 := NB298_241.out
                  have hnc313 := NB241_298.out
                  have hnb314 := NB298_274.out
                  have hnc314 := NB274_298.out
                  have hnb315 := NB298_282.out
                  have hnc315 := NB282_298.out
                  have hnb316 := NB298_286.out
                  have hnc316 := NB286_298.out
                  have hnb317 := NB298_290.out
                  have hnc317 := NB290_298.out
                  have hnb318 := NB298_302.out
                  have hnc318 := NB302_298.out
                  have hcz319_0 : wc.cell? ⟨gb298, 0, none⟩ = some (.int .i64 t291) := (blk_cell BK298.out 0).trans rfl
                  have hcz319_1 : wc.cell? ⟨gb298, 1, none⟩ = some (.int .i64 t292) := (blk_cell BK298.out 1).trans rfl
                  have hcz319_2 : wc.cell? ⟨gb298, 2, none⟩ = some (.int .i64 t293) := (blk_cell BK298.out 2).trans rfl
                  have hcz319_3 : wc.cell? ⟨gb298, 3, none⟩ = some (.int .i64 t294) := (blk_cell BK298.out 3).trans rfl
                  have hcz319_4 : wc.cell? ⟨gb298, 4, none⟩ = some (.int .i64 t295) := (blk_cell BK298.out 4).trans rfl
                  have hcz319_5 : wc.cell? ⟨gb298, 5, none⟩ = some (.int .i64 t296) := (blk_cell BK298.out 5).trans rfl
                  have hfz319_0 := blk_frozen BK298.out 0
                  have hfz319_1 := blk_frozen BK298.out 1
                  have hfz319_2 := blk_frozen BK298.out 2
                  have hfz319_3 := blk_frozen BK298.out 3
                  have hfz319_4 := blk_frozen BK298.out 4
                  have hfz319_5 := blk_frozen BK298.out 5
                  have hnb320 := NB274_241.out
                  have hnc320 := NB241_274.out
                  have hnb321 := NB274_282.out
                  have hnc321 := NB282_274.out
                  have hnb322 := NB274_286.out
                  have hnc322 := NB286_274.out
                  have hnb323 := NB274_290.out
                  have hnc323 := NB290_274.out
                  have hnb324 := NB274_302.out
                  have hnc324 := NB302_274.out
                  have hcz325_0 : wc.cell? ⟨gb274, 0, none⟩ = some (.int .i64 t267) := (blk_cell BK274.out 0).trans rfl
                  have hcz325_1 : wc.cell? ⟨gb274, 1, none⟩ = some (.int .i64 t268) := (blk_cell BK274.out 1).trans rfl
                  have hcz325_2 : wc.cell? ⟨gb274, 2, none⟩ = some (.int .i64 t269) := (blk_cell BK274.out 2).trans rfl
                  have hcz325_3 : wc.cell? ⟨gb274, 3, none⟩ = some (.int .i64 t270) := (blk_cell BK274.out 3).trans rfl
                  have hcz325_4 : wc.cell? ⟨gb274, 4, none⟩ = some (.int .i64 t271) := (blk_cell BK274.out 4).trans rfl
                  have hcz325_5 : wc.cell? ⟨gb274, 5, none⟩ = some (.int .i64 t272) := (blk_cell BK274.out 5).trans rfl
                  have hfz325_0 := blk_frozen BK274.out 0
                  have hfz325_1 := blk_frozen BK274.out 1
                  have hfz325_2 := blk_frozen BK274.out 2
                  have hfz325_3 := blk_frozen BK274.out 3
                  have hfz325_4 := blk_frozen BK274.out 4
                  have hfz325_5 := blk_frozen BK274.out 5
                  have hnb326 := NB286_241.out
                  have hnc326 := NB241_286.out
                  have hnb327 := NB286_282.out
                  have hnc327 := NB282_286.out
                  have hnb328 := NB286_290.out
                  have hnc328 := NB290_286.out
                  have hnb329 := NB286_302.out
                  have hnc329 := NB302_286.out
                  have hcz330_0 : wc.cell? ⟨gb286, 0, none⟩ = some (.int .i64 t283) := (blk_cell BK286.out 0).trans rfl
                  have hcz330_1 : wc.cell? ⟨gb286, 1, none⟩ = some (.int .i64 t284) := (blk_cell BK286.out 1).trans rfl
                  have hfz330_0 := blk_frozen BK286.out 0
                  have hfz330_1 := blk_frozen BK286.out 1
                  have hnb331 := NB302_241.out
                  have hnc331 := NB241_302.out
                  have hnb332 := NB302_282.out
                  have hnc332 := NB282_302.out
                  have hnb333 := NB302_290.out
                  have hnc333 := NB290_302.out
                  have hcz334_0 : wc.cell? ⟨gb302, 0, none⟩ = some (.int .i64 t299) := (blk_cell BK302.out 0).trans rfl
                  have hcz334_1 : wc.cell? ⟨gb302, 1, none⟩ = some (.int .i64 t300) := (blk_cell BK302.out 1).trans rfl
                  have hfz334_0 := blk_frozen BK302.out 0
                  have hfz334_1 := blk_frozen BK302.out 1
                  go_wp2
                  go_roundg kj109
                  case measure => have := HK1.out; have := HJ5.out; have := HK3.out; have := HJ29.out; have := HJ41.out; have := HJ66.out; have := HJ109.out; omega
                  case rel => exact ⟨(wrap64 (x15_3 + 1)), (by first | rfl | (simp; done) | (simp [*]; done)), H', ⟨by have := HK1.out; have := HJ5.out; have := HK3.out; have := HJ29.out; have := HJ41.out; have := HJ66.out; have := HJ109.out; omega⟩, ⟨by (with_reducible repeat (first | apply Kd.R_alloc | apply Kd.R_drewN | apply Kd.R_drew)); exact Kd.R_mono HO_6.out (fun _ hk => trivial)⟩, ⟨by (with_reducible repeat (first | apply Kd.V_alloc | apply Kd.V_drewN | apply Kd.V_drew)); exact Kd.V_mono HO_12.out (fun _ hk => ⟨hk.1, hk.2.1⟩)⟩, ⟨by (with_reducible repeat (first | apply Kd.V_alloc | apply Kd.V_drewN | apply Kd.V_drew)); exact Kd.V_mono HO_13.out (fun _ hk => ⟨hk.1, hk.2.1⟩)⟩, ⟨by (with_reducible repeat (first | refine blk_drewN ?_ _ | refine blk_drew ?_ | refine blk_alloc ?_ _)); exact BK241.out⟩, ⟨by repeat (first | (with_reducible first | exact HB.out | apply below_alloc | apply pw_below_drewN | apply below_drew1 | refine below_set ?_ GE241.out | refine below_set ?_ GE274.out | refine below_set ?_ GE282.out | refine below_set ?_ GE286.out | refine below_set ?_ GE290.out | refine below_set ?_ GE298.out | refine below_set ?_ GE302.out) | exact HB.out)⟩⟩
                subst c136
                have H1 : (if (t297 != t273) = true then (some false) else (if t273 = true then (if t293 = (Go.bits .and .i64 a1_2 7) then (if t294 = t270 then (if (!(t283 == t299) || (!(t284 == t300))) = true then (some false) else (if (t285 != t301) = true then (some false) else (flyleaflaw15_RegionKeeps.l1 kj109 t242 x6_1 (Go.bits .and .i64 a1_0 63) (Go.bits .and .i64 a1_1 63) t259 t262 t265 (wrap64 (x15_3 + 1)) a1_0 a1_1 a1_2))) else (some false)) else (some false)) else (flyleaflaw15_RegionKeeps.l1 kj109 t242 x6_1 (Go.bits .and .i64 a1_0 63) (Go.bits .and .i64 a1_1 63) t259 t262 t265 (wrap64 (x15_3 + 1)) a1_0 a1_1 a1_2))) = some r := by rw [if_pos rfl] at H; exact H
                clear H
                have H := H1
                clear H1
                by_cases c137 : (t297 != t273) = true
                · rw [if_pos c137] at H
                  have c137b0 : (t297 != t273) = true := c137
                  (try (have c137b1 : decide (t297 = t273) = false := by simpa using c137))
                  (try (have c137b2 : (t297 == t273) = false := by simpa using c137))
                  (try (have c137b3 : ¬ (t297 = t273) := by simpa using c137))
                  clear c137
                  obtain rfl := Option.some.inj H
                  have hnb138 := NB241_274.out
                  have hnc138 := NB274_241.out
                  have hnb139 := NB241_282.out
                  have hnc139 := NB282_241.out
                  have hnb140 := NB241_286.out
                  have hnc140 := NB286_241.out
                  have hnb141 := NB241_290.out
                  have hnc141 := NB290_241.out
                  have hnb142 := NB241_298.out
                  have hnc142 := NB298_241.out
                  have hnb143 := NB241_302.out
                  have hnc143 := NB302_241.out
                  have hcz144_0 : wc.cell? ⟨gb241, 0, none⟩ = some (.int .i64 a1_0) := (blk_cell BK241.out 0).trans rfl
                  have hcz144_1 : wc.cell? ⟨gb241, 1, none⟩ = some (.int .i64 a1_1) := (blk_cell BK241.out 1).trans rfl
                  have hcz144_2 : wc.cell? ⟨gb241, 2, none⟩ = some (.int .i64 a1_2) := (blk_cell BK241.out 2).trans rfl
                  have hfz144_0 := blk_frozen BK241.out 0
                  have hfz144_1 := blk_frozen BK241.out 1
                  have hfz144_2 := blk_frozen BK241.out 2
                  go_wp2
                  go_ret
                  exact ⟨by first | rfl | (simp [errW_none, errW_some] <;> rfl) | (simp [*, errW_none, errW_some] <;> rfl), by repeat (first | (with_reducible first | exact HB.out | apply below_alloc | apply pw_below_drewN | apply below_drew1 | refine below_set ?_ GE241.out | refine below_set ?_ GE274.out | refine below_set ?_ GE282.out | refine below_set ?_ GE286.out | refine below_set ?_ GE290.out | refine below_set ?_ GE298.out | refine below_set ?_ GE302.out) | exact HB.out)⟩
                rw [if_neg c137] at H
                have c137b0 : (t297 != t273) = false := by simpa using c137
                (try (have c137b1 : decide (t297 = t273) = true := by simpa using c137))
                (try (have c137b2 : (t297 == t273) = true := by simpa using c137))
                clear c137
                by_cases c145 : t273 = true
                rotate_left
                · replace c145 := Bool.eq_false_iff.mpr c145
                  subst c145
                  have H1 : (flyleaflaw15_RegionKeeps.l1 kj109 t242 x6_1 (Go.bits .and .i64 a1_0 63) (Go.bits .and .i64 a1_1 63) t259 t262 t265 (wrap64 (x15_3 + 1)) a1_0 a1_1 a1_2) = some r := by rw [if_neg (show ¬ (false = true) by decide)] at H; exact H
                  clear H
                  have H := H1
                  clear H1
                  have H' := Aside0.mk H
                  clear H
                  have hnb256 := NB241_274.out
                  have hnc256 := NB274_241.out
                  have hnb257 := NB241_282.out
                  have hnc257 := NB282_241.out
                  have hnb258 := NB241_286.out
                  have hnc258 := NB286_241.out
                  have hnb259 := NB241_290.out
                  have hnc259 := NB290_241.out
                  have hnb260 := NB241_298.out
                  have hnc260 := NB298_241.out
                  have hnb261 := NB241_302.out
                  have hnc261 := NB302_241.out
                  have hcz262_0 : wc.cell? ⟨gb241, 0, none⟩ = some (.int .i64 a1_0) := (blk_cell BK241.out 0).trans rfl
                  have hcz262_1 : wc.cell? ⟨gb241, 1, none⟩ = some (.int .i64 a1_1) := (blk_cell BK241.out 1).trans rfl
                  have hcz262_2 : wc.cell? ⟨gb241, 2, none⟩ = some (.int .i64 a1_2) := (blk_cell BK241.out 2).trans rfl
                  have hfz262_0 := blk_frozen BK241.out 0
                  have hfz262_1 := blk_frozen BK241.out 1
                  have hfz262_2 := blk_frozen BK241.out 2
                  go_wp2
                  go_roundg kj109
                  case measure => have := HK1.out; have := HJ5.out; have := HK3.out; have := HJ29.out; have := HJ41.out; have := HJ66.out; have := HJ109.out; omega
                  case rel => exact ⟨(wrap64 (x15_3 + 1)), (by first | rfl | (simp; done) | (simp [*]; done)), H', ⟨by have := HK1.out; have := HJ5.out; have := HK3.out; have := HJ29.out; have := HJ41.out; have := HJ66.out; have := HJ109.out; omega⟩, ⟨by (with_reducible repeat (first | apply Kd.R_alloc | apply Kd.R_drewN | apply Kd.R_drew)); exact Kd.R_mono HO_6.out (fun _ hk => trivial)⟩, ⟨by (with_reducible repeat (first | apply Kd.V_alloc | apply Kd.V_drewN | apply Kd.V_drew)); exact Kd.V_mono HO_12.out (fun _ hk => ⟨hk.1, hk.2.1⟩)⟩, ⟨by (with_reducible repeat (first | apply Kd.V_alloc | apply Kd.V_drewN | apply Kd.V_drew)); exact Kd.V_mono HO_13.out (fun _ hk => ⟨hk.1, hk.2.1⟩)⟩, ⟨by (with_reducible repeat (first | refine blk_drewN ?_ _ | refine blk_drew ?_ | refine blk_alloc ?_ _)); exact BK241.out⟩, ⟨by repeat (first | (with_reducible first | exact HB.out | apply below_alloc | apply pw_below_drewN | apply below_drew1 | refine below_set ?_ GE241.out | refine below_set ?_ GE274.out | refine below_set ?_ GE282.out | refine below_set ?_ GE286.out | refine below_set ?_ GE290.out | refine below_set ?_ GE298.out | refine below_set ?_ GE302.out) | exact HB.out)⟩⟩
                subst c145
                have H1 : (if t293 = (Go.bits .and .i64 a1_2 7) then (if t294 = t270 then (if (!(t283 == t299) || (!(t284 == t300))) = true then (some false) else (if (t285 != t301) = true then (some false) else (flyleaflaw15_RegionKeeps.l1 kj109 t242 x6_1 (Go.bits .and .i64 a1_0 63) (Go.bits .and .i64 a1_1 63) t259 t262 t265 (wrap64 (x15_3 + 1)) a1_0 a1_1 a1_2))) else (some false)) else (some false)) = some r := by rw [if_pos rfl] at H; exact H
                clear H
                have H := H1
                clear H1
                by_cases c146 : t293 = (Go.bits .and .i64 a1_2 7)
                rotate_left
                · rw [if_neg c146] at H
                  have c146b0 : (t293 == (Go.bits .and .i64 a1_2 7)) = false := beq_eq_false_iff_ne.mpr c146
                  have c146b1 : (t293 != (Go.bits .and .i64 a1_2 7)) = true := bne_iff_ne.mpr c146
                  obtain rfl := Option.some.inj H
                  have hnb243 := NB241_274.out
                  have hnc243 := NB274_241.out
                  have hnb244 := NB241_282.out
                  have hnc244 := NB282_241.out
                  have hnb245 := NB241_286.out
                  have hnc245 := NB286_241.out
                  have hnb246 := NB241_290.out
                  have hnc246 := NB290_241.out
                  have hnb247 := NB241_298.out
                  have hnc247 := NB298_241.out
                  have hnb248 := NB241_302.out
                  have hnc248 := NB302_241.out
                  have hcz249_0 : wc.cell? ⟨gb241, 0, none⟩ = some (.int .i64 a1_0) := (blk_cell BK241.out 0).trans rfl
                  have hcz249_1 : wc.cell? ⟨gb241, 1, none⟩ = some (.int .i64 a1_1) := (blk_cell BK241.out 1).trans rfl
                  have hcz249_2 : wc.cell? ⟨gb241, 2, none⟩ = some (.int .i64 a1_2) := (blk_cell BK241.out 2).trans rfl
                  have hfz249_0 := blk_frozen BK241.out 0
                  have hfz249_1 := blk_frozen BK241.out 1
                  have hfz249_2 := blk_frozen BK241.out 2
                  have hnb250 := NB298_274.out
                  have hnc250 := NB274_298.out
                  have hnb251 := NB298_282.out
                  have hnc251 := NB282_298.out
                  have hnb252 := NB298_286.out
                  have hnc252 := NB286_298.out
                  have hnb253 := NB298_290.out
                  have hnc253 := NB290_298.out
                  have hnb254 := NB298_302.out
                  have hnc254 := NB302_298.out
                  have hcz255_0 : wc.cell? ⟨gb298, 0, none⟩ = some (.int .i64 t291) := (blk_cell BK298.out 0).trans rfl
                  have hcz255_1 : wc.cell? ⟨gb298, 1, none⟩ = some (.int .i64 t292) := (blk_cell BK298.out 1).trans rfl
                  have hcz255_2 : wc.cell? ⟨gb298, 2, none⟩ = some (.int .i64 t293) := (blk_cell BK298.out 2).trans rfl
                  have hcz255_3 : wc.cell? ⟨gb298, 3, none⟩ = some (.int .i64 t294) := (blk_cell BK298.out 3).trans rfl
                  have hcz255_4 : wc.cell? ⟨gb298, 4, none⟩ = some (.int .i64 t295) := (blk_cell BK298.out 4).trans rfl
                  have hcz255_5 : wc.cell? ⟨gb298, 5, none⟩ = some (.int .i64 t296) := (blk_cell BK298.out 5).trans rfl
                  have hfz255_0 := blk_frozen BK298.out 0
                  have hfz255_1 := blk_frozen BK298.out 1
                  have hfz255_2 := blk_frozen BK298.out 2
                  have hfz255_3 := blk_frozen BK298.out 3
                  have hfz255_4 := blk_frozen BK298.out 4
                  have hfz255_5 := blk_frozen BK298.out 5
                  go_wp2
                  go_ret
                  exact ⟨by first | rfl | (simp [errW_none, errW_some] <;> rfl) | (simp [*, errW_none, errW_some] <;> rfl), by repeat (first | (with_reducible first | exact HB.out | apply below_alloc | apply pw_below_drewN | apply below_drew1 | refine below_set ?_ GE241.out | refine below_set ?_ GE274.out | refine below_set ?_ GE282.out | refine below_set ?_ GE286.out | refine below_set ?_ GE290.out | refine below_set ?_ GE298.out | refine below_set ?_ GE302.out) | exact HB.out)⟩
                rw [if_pos c146] at H
                have c146b0 : (t293 == (Go.bits .and .i64 a1_2 7)) = true := beq_iff_eq.mpr c146
                have c146b1 : (t293 != (Go.bits .and .i64 a1_2 7)) = false := bne_eq_false_iff_eq.mpr c146
                clear c146
                by_cases c147 : t294 = t270
                rotate_left
                · rw [if_neg c147] at H
                  have c147b0 : (t294 == t270) = false := beq_eq_false_iff_ne.mpr c147
                  have c147b1 : (t294 != t270) = true := bne_iff_ne.mpr c147
                  obtain rfl := Option.some.inj H
                  have hnb225 := NB241_274.out
                  have hnc225 := NB274_241.out
                  have hnb226 := NB241_282.out
                  have hnc226 := NB282_241.out
                  have hnb227 := NB241_286.out
                  have hnc227 := NB286_241.out
                  have hnb228 := NB241_290.out
                  have hnc228 := NB290_241.out
                  have hnb229 := NB241_298.out
                  have hnc229 := NB298_241.out
                  have hnb230 := NB241_302.out
                  have hnc230 := NB302_241.out
                  have hcz231_0 : wc.cell? ⟨gb241, 0, none⟩ = some (.int .i64 a1_0) := (blk_cell BK241.out 0).trans rfl
                  have hcz231_1 : wc.cell? ⟨gb241, 1, none⟩ = some (.int .i64 a1_1) := (blk_cell BK241.out 1).trans rfl
                  have hcz231_2 : wc.cell? ⟨gb241, 2, none⟩ = some (.int .i64 a1_2) := (blk_cell BK241.out 2).trans rfl
                  have hfz231_0 := blk_frozen BK241.out 0
                  have hfz231_1 := blk_frozen BK241.out 1
                  have hfz231_2 := blk_frozen BK241.out 2
                  have hnb232 := NB298_274.out
                  have hnc232 := NB274_298.out
                  have hnb233 := NB298_282.out
                  have hnc233 := NB282_298.out
                  have hnb234 := NB298_286.out
                  have hnc234 := NB286_298.out
                  have hnb235 := NB298_290.out
                  have hnc235 := NB290_298.out
                  have hnb236 := NB298_302.out
                  have hnc236 := NB302_298.out
                  have hcz237_0 : wc.cell? ⟨gb298, 0, none⟩ = some (.int .i64 t291) := (blk_cell BK298.out 0).trans rfl
                  have hcz237_1 : wc.cell? ⟨gb298, 1, none⟩ = some (.int .i64 t292) := (blk_cell BK298.out 1).trans rfl
                  have hcz237_2 : wc.cell? ⟨gb298, 2, none⟩ = some (.int .i64 t293) := (blk_cell BK298.out 2).trans rfl
                  have hcz237_3 : wc.cell? ⟨gb298, 3, none⟩ = some (.int .i64 t294) := (blk_cell BK298.out 3).trans rfl
                  have hcz237_4 : wc.cell? ⟨gb298, 4, none⟩ = some (.int .i64 t295) := (blk_cell BK298.out 4).trans rfl
                  have hcz237_5 : wc.cell? ⟨gb298, 5, none⟩ = some (.int .i64 t296) := (blk_cell BK298.out 5).trans rfl
                  have hfz237_0 := blk_frozen BK298.out 0
                  have hfz237_1 := blk_frozen BK298.out 1
                  have hfz237_2 := blk_frozen BK298.out 2
                  have hfz237_3 := blk_frozen BK298.out 3
                  have hfz237_4 := blk_frozen BK298.out 4
                  have hfz237_5 := blk_frozen BK298.out 5
                  have hnb238 := NB274_282.out
                  have hnc238 := NB282_274.out
                  have hnb239 := NB274_286.out
                  have hnc239 := NB286_274.out
                  have hnb240 := NB274_290.out
                  have hnc240 := NB290_274.out
                  have hnb241 := NB274_302.out
                  have hnc241 := NB302_274.out
                  have hcz242_0 : wc.cell? ⟨gb274, 0, none⟩ = some (.int .i64 t267) := (blk_cell BK274.out 0).trans rfl
                  have hcz242_1 : wc.cell? ⟨gb274, 1, none⟩ = some (.int .i64 t268) := (blk_cell BK274.out 1).trans rfl
                  have hcz242_2 : wc.cell? ⟨gb274, 2, none⟩ = some (.int .i64 t269) := (blk_cell BK274.out 2).trans rfl
                  have hcz242_3 : wc.cell? ⟨gb274, 3, none⟩ = some (.int .i64 t270) := (blk_cell BK274.out 3).trans rfl
                  have hcz242_4 : wc.cell? ⟨gb274, 4, none⟩ = some (.int .i64 t271) := (blk_cell BK274.out 4).trans rfl
                  have hcz242_5 : wc.cell? ⟨gb274, 5, none⟩ = some (.int .i64 t272) := (blk_cell BK274.out 5).trans rfl
                  have hfz242_0 := blk_frozen BK274.out 0
                  have hfz242_1 := blk_frozen BK274.out 1
                  have hfz242_2 := blk_frozen BK274.out 2
                  have hfz242_3 := blk_frozen BK274.out 3
                  have hfz242_4 := blk_frozen BK274.out 4
                  have hfz242_5 := blk_frozen BK274.out 5
                  go_wp2
                  go_ret
                  exact ⟨by first | rfl | (simp [errW_none, errW_some] <;> rfl) | (simp [*, errW_none, errW_some] <;> rfl), by repeat (first | (with_reducible first | exact HB.out | apply below_alloc | apply pw_below_drewN | apply below_drew1 | refine below_set ?_ GE241.out | refine below_set ?_ GE274.out | refine below_set ?_ GE282.out | refine below_set ?_ GE286.out | refine below_set ?_ GE290.out | refine below_set ?_ GE298.out | refine below_set ?_ GE302.out) | exact HB.out)⟩
                rw [if_pos c147] at H
                have c147b0 : (t294 == t270) = true := beq_iff_eq.mpr c147
                have c147b1 : (t294 != t270) = false := bne_eq_false_iff_eq.mpr c147
                clear c147
                by_cases c148 : (!(t283 == t299) || (!(t284 == t300))) = true
                · rw [if_pos c148] at H
                  have c148b0 : (!(t283 == t299) || (!(t284 == t300))) = true := c148
                  clear c148
                  obtain rfl := Option.some.inj H
                  have hnb149 := NB241_274.out
                  have hnc149 := NB274_241.out
                  have hnb150 := NB241_282.out
                  have hnc150 := NB282_241.out
                  have hnb151 := NB241_286.out
                  have hnc151 := NB286_241.out
                  have hnb152 := NB241_290.out
                  have hnc152 := NB290_241.out
                  have hnb153 := NB241_298.out
                  have hnc153 := NB298_241.out
                  have hnb154 := NB241_302.out
                  have hnc154 := NB302_241.out
                  have hcz155_0 : wc.cell? ⟨gb241, 0, none⟩ = some (.int .i64 a1_0) := (blk_cell BK241.out 0).trans rfl
                  have hcz155_1 : wc.cell? ⟨gb241, 1, none⟩ = some (.int .i64 a1_1) := (blk_cell BK241.out 1).trans rfl
                  have hcz155_2 : wc.cell? ⟨gb241, 2, none⟩ = some (.int .i64 a1_2) := (blk_cell BK241.out 2).trans rfl
                  have hfz155_0 := blk_frozen BK241.out 0
                  have hfz155_1 := blk_frozen BK241.out 1
                  have hfz155_2 := blk_frozen BK241.out 2
                  have hnb156 := NB298_274.out
                  have hnc156 := NB274_298.out
                  have hnb157 := NB298_282.out
                  have hnc157 := NB282_298.out
                  have hnb158 := NB298_286.out
                  have hnc158 := NB286_298.out
                  have hnb159 := NB298_290.out
                  have hnc159 := NB290_298.out
                  have hnb160 := NB298_302.out
                  have hnc160 := NB302_298.out
                  have hcz161_0 : wc.cell? ⟨gb298, 0, none⟩ = some (.int .i64 t291) := (blk_cell BK298.out 0).trans rfl
                  have hcz161_1 : wc.cell? ⟨gb298, 1, none⟩ = some (.int .i64 t292) := (blk_cell BK298.out 1).trans rfl
                  have hcz161_2 : wc.cell? ⟨gb298, 2, none⟩ = some (.int .i64 t293) := (blk_cell BK298.out 2).trans rfl
                  have hcz161_3 : wc.cell? ⟨gb298, 3, none⟩ = some (.int .i64 t294) := (blk_cell BK298.out 3).trans rfl
                  have hcz161_4 : wc.cell? ⟨gb298, 4, none⟩ = some (.int .i64 t295) := (blk_cell BK298.out 4).trans rfl
                  have hcz161_5 : wc.cell? ⟨gb298, 5, none⟩ = some (.int .i64 t296) := (blk_cell BK298.out 5).trans rfl
                  have hfz161_0 := blk_frozen BK298.out 0
                  have hfz161_1 := blk_frozen BK298.out 1
                  have hfz161_2 := blk_frozen BK298.out 2
                  have hfz161_3 := blk_frozen BK298.out 3
                  have hfz161_4 := blk_frozen BK298.out 4
                  have hfz161_5 := blk_frozen BK298.out 5
                  have hnb162 := NB274_282.out
                  have hnc162 := NB282_274.out
                  have hnb163 := NB274_286.out
                  have hnc163 := NB286_274.out
                  have hnb164 := NB274_290.out
                  have hnc164 := NB290_274.out
                  have hnb165 := NB274_302.out
                  have hnc165 := NB302_274.out
                  have hcz166_0 : wc.cell? ⟨gb274, 0, none⟩ = some (.int .i64 t267) := (blk_cell BK274.out 0).trans rfl
                  have hcz166_1 : wc.cell? ⟨gb274, 1, none⟩ = some (.int .i64 t268) := (blk_cell BK274.out 1).trans rfl
                  have hcz166_2 : wc.cell? ⟨gb274, 2, none⟩ = some (.int .i64 t269) := (blk_cell BK274.out 2).trans rfl
                  have hcz166_3 : wc.cell? ⟨gb274, 3, none⟩ = some (.int .i64 t270) := (blk_cell BK274.out 3).trans rfl
                  have hcz166_4 : wc.cell? ⟨gb274, 4, none⟩ = some (.int .i64 t271) := (blk_cell BK274.out 4).trans rfl
                  have hcz166_5 : wc.cell? ⟨gb274, 5, none⟩ = some (.int .i64 t272) := (blk_cell BK274.out 5).trans rfl
                  have hfz166_0 := blk_frozen BK274.out 0
                  have hfz166_1 := blk_frozen BK274.out 1
                  have hfz166_2 := blk_frozen BK274.out 2
                  have hfz166_3 := blk_frozen BK274.out 3
                  have hfz166_4 := blk_frozen BK274.out 4
                  have hfz166_5 := blk_frozen BK274.out 5
                  have hnb167 := NB286_282.out
                  have hnc167 := NB282_286.out
                  have hnb168 := NB286_290.out
                  have hnc168 := NB290_286.out
                  have hnb169 := NB286_302.out
                  have hnc169 := NB302_286.out
                  have hcz170_0 : wc.cell? ⟨gb286, 0, none⟩ = some (.int .i64 t283) := (blk_cell BK286.out 0).trans rfl
                  have hcz170_1 : wc.cell? ⟨gb286, 1, none⟩ = some (.int .i64 t284) := (blk_cell BK286.out 1).trans rfl
                  have hfz170_0 := blk_frozen BK286.out 0
                  have hfz170_1 := blk_frozen BK286.out 1
                  have hnb171 := NB302_282.out
                  have hnc171 := NB282_302.out
                  have hnb172 := NB302_290.out
                  have hnc172 := NB290_302.out
                  have hcz173_0 : wc.cell? ⟨gb302, 0, none⟩ = some (.int .i64 t299) := (blk_cell BK302.out 0).trans rfl
                  have hcz173_1 : wc.cell? ⟨gb302, 1, none⟩ = some (.int .i64 t300) := (blk_cell BK302.out 1).trans rfl
                  have hfz173_0 := blk_frozen BK302.out 0
                  have hfz173_1 := blk_frozen BK302.out 1
                  go_wp2
                  go_ret
                  exact ⟨by first | rfl | (simp [errW_none, errW_some] <;> rfl) | (simp [*, errW_none, errW_some] <;> rfl), by repeat (first | (with_reducible first | exact HB.out | apply below_alloc | apply pw_below_drewN | apply below_drew1 | refine below_set ?_ GE241.out | refine below_set ?_ GE274.out | refine below_set ?_ GE282.out | refine below_set ?_ GE286.out | refine below_set ?_ GE290.out | refine below_set ?_ GE298.out | refine below_set ?_ GE302.out) | exact HB.out)⟩
                rw [if_neg c148] at H
                have c148b0 : (!(t283 == t299) || (!(t284 == t300))) = false := by simpa using c148
                clear c148
                by_cases c174 : (t285 != t301) = true
                · rw [if_pos c174] at H
                  have c174b0 : (t285 != t301) = true := c174
                  (try (have c174b1 : decide (t285 = t301) = false := by simpa using c174))
                  (try (have c174b2 : (t285 == t301) = false := by simpa using c174))
                  (try (have c174b3 : ¬ (t285 = t301) := by simpa using c174))
                  clear c174
                  obtain rfl := Option.some.inj H
                  have hnb175 := NB241_274.out
                  have hnc175 := NB274_241.out
                  have hnb176 := NB241_282.out
                  have hnc176 := NB282_241.out
                  have hnb177 := NB241_286.out
                  have hnc177 := NB286_241.out
                  have hnb178 := NB241_290.out
                  have hnc178 := NB290_241.out
                  have hnb179 := NB241_298.out
                  have hnc179 := NB298_241.out
                  have hnb180 := NB241_302.out
                  have hnc180 := NB302_241.out
                  have hcz181_0 : wc.cell? ⟨gb241, 0, none⟩ = some (.int .i64 a1_0) := (blk_cell BK241.out 0).trans rfl
                  have hcz181_1 : wc.cell? ⟨gb241, 1, none⟩ = some (.int .i64 a1_1) := (blk_cell BK241.out 1).trans rfl
                  have hcz181_2 : wc.cell? ⟨gb241, 2, none⟩ = some (.int .i64 a1_2) := (blk_cell BK241.out 2).trans rfl
                  have hfz181_0 := blk_frozen BK241.out 0
                  have hfz181_1 := blk_frozen BK241.out 1
                  have hfz181_2 := blk_frozen BK241.out 2
                  have hnb182 := NB298_274.out
                  have hnc182 := NB274_298.out
                  have hnb183 := NB298_282.out
                  have hnc183 := NB282_298.out
                  have hnb184 := NB298_286.out
                  have hnc184 := NB286_298.out
                  have hnb185 := NB298_290.out
                  have hnc185 := NB290_298.out
                  have hnb186 := NB298_302.out
                  have hnc186 := NB302_298.out
                  have hcz187_0 : wc.cell? ⟨gb298, 0, none⟩ = some (.int .i64 t291) := (blk_cell BK298.out 0).trans rfl
                  have hcz187_1 : wc.cell? ⟨gb298, 1, none⟩ = some (.int .i64 t292) := (blk_cell BK298.out 1).trans rfl
                  have hcz187_2 : wc.cell? ⟨gb298, 2, none⟩ = some (.int .i64 t293) := (blk_cell BK298.out 2).trans rfl
                  have hcz187_3 : wc.cell? ⟨gb298, 3, none⟩ = some (.int .i64 t294) := (blk_cell BK298.out 3).trans rfl
                  have hcz187_4 : wc.cell? ⟨gb298, 4, none⟩ = some (.int .i64 t295) := (blk_cell BK298.out 4).trans rfl
                  have hcz187_5 : wc.cell? ⟨gb298, 5, none⟩ = some (.int .i64 t296) := (blk_cell BK298.out 5).trans rfl
                  have hfz187_0 := blk_frozen BK298.out 0
                  have hfz187_1 := blk_frozen BK298.out 1
                  have hfz187_2 := blk_frozen BK298.out 2
                  have hfz187_3 := blk_frozen BK298.out 3
                  have hfz187_4 := blk_frozen BK298.out 4
                  have hfz187_5 := blk_frozen BK298.out 5
                  have hnb188 := NB274_282.out
                  have hnc188 := NB282_274.out
                  have hnb189 := NB274_286.out
                  have hnc189 := NB286_274.out
                  have hnb190 := NB274_290.out
                  have hnc190 := NB290_274.out
                  have hnb191 := NB274_302.out
                  have hnc191 := NB302_274.out
                  have hcz192_0 : wc.cell? ⟨gb274, 0, none⟩ = some (.int .i64 t267) := (blk_cell BK274.out 0).trans rfl
                  have hcz192_1 : wc.cell? ⟨gb274, 1, none⟩ = some (.int .i64 t268) := (blk_cell BK274.out 1).trans rfl
                  have hcz192_2 : wc.cell? ⟨gb274, 2, none⟩ = some (.int .i64 t269) := (blk_cell BK274.out 2).trans rfl
                  have hcz192_3 : wc.cell? ⟨gb274, 3, none⟩ = some (.int .i64 t270) := (blk_cell BK274.out 3).trans rfl
                  have hcz192_4 : wc.cell? ⟨gb274, 4, none⟩ = some (.int .i64 t271) := (blk_cell BK274.out 4).trans rfl
                  have hcz192_5 : wc.cell? ⟨gb274, 5, none⟩ = some (.int .i64 t272) := (blk_cell BK274.out 5).trans rfl
                  have hfz192_0 := blk_frozen BK274.out 0
                  have hfz192_1 := blk_frozen BK274.out 1
                  have hfz192_2 := blk_frozen BK274.out 2
                  have hfz192_3 := blk_frozen BK274.out 3
                  have hfz192_4 := blk_frozen BK274.out 4
                  have hfz192_5 := blk_frozen BK274.out 5
                  have hnb193 := NB286_282.out
                  have hnc193 := NB282_286.out
                  have hnb194 := NB286_290.out
                  have hnc194 := NB290_286.out
                  have hnb195 := NB286_302.out
                  have hnc195 := NB302_286.out
                  have hcz196_0 : wc.cell? ⟨gb286, 0, none⟩ = some (.int .i64 t283) := (blk_cell BK286.out 0).trans rfl
                  have hcz196_1 : wc.cell? ⟨gb286, 1, none⟩ = some (.int .i64 t284) := (blk_cell BK286.out 1).trans rfl
                  have hfz196_0 := blk_frozen BK286.out 0
                  have hfz196_1 := blk_frozen BK286.out 1
                  have hnb197 := NB302_282.out
                  have hnc197 := NB282_302.out
                  have hnb198 := NB302_290.out
                  have hnc198 := NB290_302.out
                  have hcz199_0 : wc.cell? ⟨gb302, 0, none⟩ = some (.int .i64 t299) := (blk_cell BK302.out 0).trans rfl
                  have hcz199_1 : wc.cell? ⟨gb302, 1, none⟩ = some (.int .i64 t300) := (blk_cell BK302.out 1).trans rfl
                  have hfz199_0 := blk_frozen BK302.out 0
                  have hfz199_1 := blk_frozen BK302.out 1
                  go_wp2
                  go_ret
                  exact ⟨by first | rfl | (simp [errW_none, errW_some] <;> rfl) | (simp [*, errW_none, errW_some] <;> rfl), by repeat (first | (with_reducible first | exact HB.out | apply below_alloc | apply pw_below_drewN | apply below_drew1 | refine below_set ?_ GE241.out | refine below_set ?_ GE274.out | refine below_set ?_ GE282.out | refine below_set ?_ GE286.out | refine below_set ?_ GE290.out | refine below_set ?_ GE298.out | refine below_set ?_ GE302.out) | exact HB.out)⟩
                rw [if_neg c174] at H
                have c174b0 : (t285 != t301) = false := by simpa using c174
                (try (have c174b1 : decide (t285 = t301) = true := by simpa using c174))
                (try (have c174b2 : (t285 == t301) = true := by simpa using c174))
                clear c174
                have H' := Aside0.mk H
                clear H
                have hnb200 := NB241_274.out
                have hnc200 := NB274_241.out
                have hnb201 := NB241_282.out
                have hnc201 := NB282_241.out
                have hnb202 := NB241_286.out
                have hnc202 := NB286_241.out
                have hnb203 := NB241_290.out
                have hnc203 := NB290_241.out
                have hnb204 := NB241_298.out
                have hnc204 := NB298_241.out
                have hnb205 := NB241_302.out
                have hnc205 := NB302_241.out
                have hcz206_0 : wc.cell? ⟨gb241, 0, none⟩ = some (.int .i64 a1_0) := (blk_cell BK241.out 0).trans rfl
                have hcz206_1 : wc.cell? ⟨gb241, 1, none⟩ = some (.int .i64 a1_1) := (blk_cell BK241.out 1).trans rfl
                have hcz206_2 : wc.cell? ⟨gb241, 2, none⟩ = some (.int .i64 a1_2) := (blk_cell BK241.out 2).trans rfl
                have hfz206_0 := blk_frozen BK241.out 0
                have hfz206_1 := blk_frozen BK241.out 1
                have hfz206_2 := blk_frozen BK241.out 2
                have hnb207 := NB298_274.out
                have hnc207 := NB274_298.out
                have hnb208 := NB298_282.out
                have hnc208 := NB282_298.out
                have hnb209 := NB298_286.out
                have hnc209 := NB286_298.out
                have hnb210 := NB298_290.out
                have hnc210 := NB290_298.out
                have hnb211 := NB298_302.out
                have hnc211 := NB302_298.out
                have hcz212_0 : wc.cell? ⟨gb298, 0, none⟩ = some (.int .i64 t291) := (blk_cell BK298.out 0).trans rfl
                have hcz212_1 : wc.cell? ⟨gb298, 1, none⟩ = some (.int .i64 t292) := (blk_cell BK298.out 1).trans rfl
                have hcz212_2 : wc.cell? ⟨gb298, 2, none⟩ = some (.int .i64 t293) := (blk_cell BK298.out 2).trans rfl
                have hcz212_3 : wc.cell? ⟨gb298, 3, none⟩ = some (.int .i64 t294) := (blk_cell BK298.out 3).trans rfl
                have hcz212_4 : wc.cell? ⟨gb298, 4, none⟩ = some (.int .i64 t295) := (blk_cell BK298.out 4).trans rfl
                have hcz212_5 : wc.cell? ⟨gb298, 5, none⟩ = some (.int .i64 t296) := (blk_cell BK298.out 5).trans rfl
                have hfz212_0 := blk_frozen BK298.out 0
                have hfz212_1 := blk_frozen BK298.out 1
                have hfz212_2 := blk_frozen BK298.out 2
                have hfz212_3 := blk_frozen BK298.out 3
                have hfz212_4 := blk_frozen BK298.out 4
                have hfz212_5 := blk_frozen BK298.out 5
                have hnb213 := NB274_282.out
                have hnc213 := NB282_274.out
                have hnb214 := NB274_286.out
                have hnc214 := NB286_274.out
                have hnb215 := NB274_290.out
                have hnc215 := NB290_274.out
                have hnb216 := NB274_302.out
                have hnc216 := NB302_274.out
                have hcz217_0 : wc.cell? ⟨gb274, 0, none⟩ = some (.int .i64 t267) := (blk_cell BK274.out 0).trans rfl
                have hcz217_1 : wc.cell? ⟨gb274, 1, none⟩ = some (.int .i64 t268) := (blk_cell BK274.out 1).trans rfl
                have hcz217_2 : wc.cell? ⟨gb274, 2, none⟩ = some (.int .i64 t269) := (blk_cell BK274.out 2).trans rfl
                have hcz217_3 : wc.cell? ⟨gb274, 3, none⟩ = some (.int .i64 t270) := (blk_cell BK274.out 3).trans rfl
                have hcz217_4 : wc.cell? ⟨gb274, 4, none⟩ = some (.int .i64 t271) := (blk_cell BK274.out 4).trans rfl
                have hcz217_5 : wc.cell? ⟨gb274, 5, none⟩ = some (.int .i64 t272) := (blk_cell BK274.out 5).trans rfl
                have hfz217_0 := blk_frozen BK274.out 0
                have hfz217_1 := blk_frozen BK274.out 1
                have hfz217_2 := blk_frozen BK274.out 2
                have hfz217_3 := blk_frozen BK274.out 3
                have hfz217_4 := blk_frozen BK274.out 4
                have hfz217_5 := blk_frozen BK274.out 5
                have hnb218 := NB286_282.out
                have hnc218 := NB282_286.out
                have hnb219 := NB286_290.out
                have hnc219 := NB290_286.out
                have hnb220 := NB286_302.out
                have hnc220 := NB302_286.out
                have hcz221_0 : wc.cell? ⟨gb286, 0, none⟩ = some (.int .i64 t283) := (blk_cell BK286.out 0).trans rfl
                have hcz221_1 : wc.cell? ⟨gb286, 1, none⟩ = some (.int .i64 t284) := (blk_cell BK286.out 1).trans rfl
                have hfz221_0 := blk_frozen BK286.out 0
                have hfz221_1 := blk_frozen BK286.out 1
                have hnb222 := NB302_282.out
                have hnc222 := NB282_302.out
                have hnb223 := NB302_290.out
                have hnc223 := NB290_302.out
                have hcz224_0 : wc.cell? ⟨gb302, 0, none⟩ = some (.int .i64 t299) := (blk_cell BK302.out 0).trans rfl
                have hcz224_1 : wc.cell? ⟨gb302, 1, none⟩ = some (.int .i64 t300) := (blk_cell BK302.out 1).trans rfl
                have hfz224_0 := blk_frozen BK302.out 0
                have hfz224_1 := blk_frozen BK302.out 1
                go_wp2
                go_roundg kj109
                case measure => have := HK1.out; have := HJ5.out; have := HK3.out; have := HJ29.out; have := HJ41.out; have := HJ66.out; have := HJ109.out; omega
                case rel => exact ⟨(wrap64 (x15_3 + 1)), (by first | rfl | (simp; done) | (simp [*]; done)), H', ⟨by have := HK1.out; have := HJ5.out; have := HK3.out; have := HJ29.out; have := HJ41.out; have := HJ66.out; have := HJ109.out; omega⟩, ⟨by (with_reducible repeat (first | apply Kd.R_alloc | apply Kd.R_drewN | apply Kd.R_drew)); exact Kd.R_mono HO_6.out (fun _ hk => trivial)⟩, ⟨by (with_reducible repeat (first | apply Kd.V_alloc | apply Kd.V_drewN | apply Kd.V_drew)); exact Kd.V_mono HO_12.out (fun _ hk => ⟨hk.1, hk.2.1⟩)⟩, ⟨by (with_reducible repeat (first | apply Kd.V_alloc | apply Kd.V_drewN | apply Kd.V_drew)); exact Kd.V_mono HO_13.out (fun _ hk => ⟨hk.1, hk.2.1⟩)⟩, ⟨by (with_reducible repeat (first | refine blk_drewN ?_ _ | refine blk_drew ?_ | refine blk_alloc ?_ _)); exact BK241.out⟩, ⟨by repeat (first | (with_reducible first | exact HB.out | apply below_alloc | apply pw_below_drewN | apply below_drew1 | refine below_set ?_ GE241.out | refine below_set ?_ GE274.out | refine below_set ?_ GE282.out | refine below_set ?_ GE286.out | refine below_set ?_ GE290.out | refine below_set ?_ GE298.out | refine below_set ?_ GE302.out) | exact HB.out)⟩⟩

end Go.Proofs.Ytafmeagfockdfaa.Rg
