-- Written by prn.py, a program of this session over the kit's printer. Not trusted: Lean checks it.
import Derived.Test.YtafmeagfockdfaaRg0
import Derived.Test.YtafmeagfockdfaaRg1
import Derived.Test.YtafmeagfockdfaaSq
namespace Go.Proofs.Ytafmeagfockdfaa.Rg
open Go.Proofs.Ytafmeagfockdfaa.Sq
open Go.RowKit Go.Proofs.YtafmeagfockdfaaW.PrintWords Go.Proofs.YtafmeagfockdfaaW.PrintLast Go.Proofs.YtafmeagfockdfaaW.PrintMore
attribute [local go_sem] max2_int min2_int max_two min_two max_three min_three max_four min_four   -- for this text's walks alone
set_option linter.unusedVariables false
set_option linter.unusedSimpArgs false

attribute [local go_sem high] eqA41
/-! ### flyleafref15_Same: function 26 -/
def flyleafref15_Same.l0 : Nat → List (S41) → List (S41) → Int → Option (Bool)
  | 0, _, _, _ => none
  | k + 1, x0, x1, x5 => if x5 < (x0.length : Int) then (if 0 ≤ x5 then (if x5 < (x1.length : Int) then (if (!(((rd_T41 x0 x5).f0) == ((rd_T41 x1 x5).f0)) || (!(((rd_T41 x0 x5).f1) == ((rd_T41 x1 x5).f1)) || (!(((rd_T41 x0 x5).f2) == ((rd_T41 x1 x5).f2)) || (!(((rd_T41 x0 x5).f3) == ((rd_T41 x1 x5).f3)) || (!(((rd_T41 x0 x5).f4) == ((rd_T41 x1 x5).f4)) || (!(((rd_T41 x0 x5).f5) == ((rd_T41 x1 x5).f5)))))))) = true then (some false) else (flyleafref15_Same.l0 k x0 x1 (wrap64 (x5 + 1)))) else (none)) else (none)) else (some true)
def flyleafref15_Same.f (k : Nat) (l0 : List (S41)) (l1 : List (S41)) : Option (Bool) := if (l0.length : Int) = (l1.length : Int) then (flyleafref15_Same.l0 k l0 l1 0) else (some false)
theorem flyleafref15_Same.mono_l : ∀ k, (∀ y0 y1 y2, LeO (flyleafref15_Same.l0 k y0 y1 y2) (flyleafref15_Same.l0 (k + 1) y0 y1 y2))
  | 0 => fun _ _ _ r h => by simp [flyleafref15_Same.l0] at h
  | k + 1 => by
    have ih0 := flyleafref15_Same.mono_l k
    · intro y0 y1 y2
      unfold flyleafref15_Same.l0
      repeat' first
      | (with_reducible exact ih0 _ _ _)
      | (with_reducible exact LeO.refl _)
      | (with_reducible exact LeO.none _)
      | (with_reducible refine LeO.ite ?_ ?_)
      | (with_reducible refine LeO.bind ?_ (fun _ => ?_))
      | exact ih0 _ _ _
      | exact LeO.none _
      | refine LeO.ite ?_ ?_
      | refine LeO.bind ?_ (fun _ => ?_)
theorem flyleafref15_Same.mono : ∀ a0 a1 k, LeO (flyleafref15_Same.f k a0 a1) (flyleafref15_Same.f (k + 1) a0 a1) := by
  intro a0 a1 k
  have ih0 := flyleafref15_Same.mono_l k
  unfold flyleafref15_Same.f
  repeat' first
      | (with_reducible exact ih0 _ _ _)
      | (with_reducible exact LeO.refl _)
      | (with_reducible exact LeO.none _)
      | (with_reducible refine LeO.ite ?_ ?_)
      | (with_reducible refine LeO.bind ?_ (fun _ => ?_))
      | exact ih0 _ _ _
      | exact LeO.none _
      | refine LeO.ite ?_ ?_
      | refine LeO.bind ?_ (fun _ => ?_)
set_option maxHeartbeats 8000000 in
set_option maxRecDepth 100000 in
theorem flyleafref15_Same.calls (k : Nat) (A0 : Option Addr) (c0 : Nat) (l0 : List (S41)) (A1 : Option Addr) (c1 : Nat) (l1 : List (S41)) (r : Bool) (w : World) (hr0 : Kd.C k41 w A0 l0.length l0) (hc0 : l0.length ≤ c0) (hr1 : Kd.C k41 w A1 l1.length l1) (hc1 : l1.length ≤ c1) (h : flyleafref15_Same.f k l0 l1 = some r) :
    Calls Try.prog 26 #[.slice A0 l0.length c0, .slice A1 l1.length c1] w fun e w' => e = .returned (.bool r) ∧ Drawn0 w w' := by
 have hu41 := Try.underlying41
 have HR0 := Aside0.mk hr0
 have HC0 := Aside0.mk hc0
 clear hr0 hc0
 have HR1 := Aside0.mk hr1
 have HC1 := Aside0.mk hc1
 clear hr1 hc1
 have H : (if (l0.length : Int) = (l1.length : Int) then (flyleafref15_Same.l0 k l0 l1 0) else (some false)) = some r := h
 clear h
 by_cases c3 : (l0.length : Int) = (l1.length : Int)
 rotate_left
 · rw [if_neg c3] at H
   have c3b0 : ((l0.length : Int) == (l1.length : Int)) = false := beq_eq_false_iff_ne.mpr c3
   have c3b1 : ((l0.length : Int) != (l1.length : Int)) = true := bne_iff_ne.mpr c3
   have c3b2 : (l0.length == l1.length) = false := by first | simpa using c3 | (simp at c3 ⊢; omega)
   obtain rfl := Option.some.inj H
   go_enter Try.func26, Try.ntmps26
   go_wp2
   repeat (go_quiet (fail); try go_wp2)
   go_ret
   exact ⟨by first | rfl | (simp; done) | (simp [*]; done), by repeat (first | exact Drawn0.refl _ | apply Drawn0.step)⟩
 rw [if_pos c3] at H
 have c3b0 : ((l0.length : Int) == (l1.length : Int)) = true := beq_iff_eq.mpr c3
 have c3b1 : ((l0.length : Int) != (l1.length : Int)) = false := bne_eq_false_iff_eq.mpr c3
 have c3b2 : (l0.length == l1.length) = true := by first | simpa using c3 | (simp at c3 ⊢; omega)
 clear c3
 have H' := Aside0.mk H
 clear H
 go_enter Try.func26, Try.ntmps26
 go_wp2
 repeat (go_quiet (fail); try go_wp2)
 go_loopg [5] k (fun kq v5 w' => ∃ (x5_1 : Int), v5 = .int .i64 x5_1 ∧ Aside0 (flyleafref15_Same.l0 kq l0 l1 x5_1 = some r) ∧ Aside0 (kq ≤ k) ∧ Drawn0 w w')
 case atStart => exact ⟨(0), (by first | rfl | (simp; done) | (simp [*]; done)), H', ⟨Nat.le_refl _⟩, by repeat (first | exact Drawn0.refl _ | apply Drawn0.step)⟩
 case round =>
  clear H'
  try clear c1
  try clear c2
  try clear p2
  try clear c3
  try clear c3b0
  try clear c3b1
  try clear c3b2
  obtain ⟨x5_1, rfl, HA, HK1, ⟨m1, rfl⟩⟩ := hrel
  cases gk with
  | zero => exact absurd HA.out (by simp [flyleafref15_Same.l0])
  | succ k1 =>
   have H := HA.out
   clear HA
   simp only [flyleafref15_Same.l0] at H
   by_cases c4 : x5_1 < (l0.length : Int)
   rotate_left
   · rw [if_neg c4] at H
     have c4b0 : decide (x5_1 < (l0.length : Int)) = false := decide_eq_false c4
     clear c4
     obtain rfl := Option.some.inj H
     go_wp2
     repeat (go_quiet (fail); try go_wp2)
     go_ret
     exact ⟨by first | rfl | (simp; done) | (simp [*]; done), by repeat (first | exact Drawn0.refl _ | apply Drawn0.step)⟩
   rw [if_pos c4] at H
   have c4b0 : decide (x5_1 < (l0.length : Int)) = true := decide_eq_true c4
   clear c4
   by_cases c5 : 0 ≤ x5_1
   rotate_left
   · rw [if_neg c5] at H
     exact absurd H (by simp)
   rw [if_pos c5] at H
   have c5b0 : decide (0 ≤ x5_1) = true := decide_eq_true c5
   clear c5
   by_cases c6 : x5_1 < (l1.length : Int)
   rotate_left
   · rw [if_neg c6] at H
     exact absurd H (by simp)
   rw [if_pos c6] at H
   have c6b0 : decide (x5_1 < (l1.length : Int)) = true := decide_eq_true c6
   clear c6
   by_cases c7 : (!(((rd_T41 l0 x5_1).f0) == ((rd_T41 l1 x5_1).f0)) || (!(((rd_T41 l0 x5_1).f1) == ((rd_T41 l1 x5_1).f1)) || (!(((rd_T41 l0 x5_1).f2) == ((rd_T41 l1 x5_1).f2)) || (!(((rd_T41 l0 x5_1).f3) == ((rd_T41 l1 x5_1).f3)) || (!(((rd_T41 l0 x5_1).f4) == ((rd_T41 l1 x5_1).f4)) || (!(((rd_T41 l0 x5_1).f5) == ((rd_T41 l1 x5_1).f5)))))))) = true
   · rw [if_pos c7] at H
     have c7b0 : (!(((rd_T41 l0 x5_1).f0) == ((rd_T41 l1 x5_1).f0)) || (!(((rd_T41 l0 x5_1).f1) == ((rd_T41 l1 x5_1).f1)) || (!(((rd_T41 l0 x5_1).f2) == ((rd_T41 l1 x5_1).f2)) || (!(((rd_T41 l0 x5_1).f3) == ((rd_T41 l1 x5_1).f3)) || (!(((rd_T41 l0 x5_1).f4) == ((rd_T41 l1 x5_1).f4)) || (!(((rd_T41 l0 x5_1).f5) == ((rd_T41 l1 x5_1).f5)))))))) = true := c7
     clear c7
     obtain rfl := Option.some.inj H
     have p129 : 0 ≤ (x5_1 : Int) := of_decide_eq_true (by first | (with_reducible assumption) | assumption)
     have q129 : x5_1 < (l0.length : Int) := of_decide_eq_true (by first | (with_reducible assumption) | assumption)
     obtain ⟨ad129, e129, hx129_0, hx129_1, hx129_2, hx129_3, hx129_4, hx129_5⟩ := at_T41 HR0.out x5_1 p129 q129
     cases e129
     replace p129 := eq_true p129
     replace q129 := eq_true q129
     have p130 : 0 ≤ (x5_1 : Int) := of_decide_eq_true (by first | (with_reducible assumption) | assumption)
     have q130 : x5_1 < (l1.length : Int) := of_decide_eq_true (by first | (with_reducible assumption) | assumption)
     obtain ⟨ad130, e130, hx130_0, hx130_1, hx130_2, hx130_3, hx130_4, hx130_5⟩ := at_T41 HR1.out x5_1 p130 q130
     cases e130
     replace p130 := eq_true p130
     replace q130 := eq_true q130
     go_wp2
     repeat (go_quiet (fail); try go_wp2)
     go_ret
     exact ⟨by first | rfl | (simp; done) | (simp [*]; done), by repeat (first | exact Drawn0.refl _ | apply Drawn0.step)⟩
   rw [if_neg c7] at H
   have c7b0 : (!(((rd_T41 l0 x5_1).f0) == ((rd_T41 l1 x5_1).f0)) || (!(((rd_T41 l0 x5_1).f1) == ((rd_T41 l1 x5_1).f1)) || (!(((rd_T41 l0 x5_1).f2) == ((rd_T41 l1 x5_1).f2)) || (!(((rd_T41 l0 x5_1).f3) == ((rd_T41 l1 x5_1).f3)) || (!(((rd_T41 l0 x5_1).f4) == ((rd_T41 l1 x5_1).f4)) || (!(((rd_T41 l0 x5_1).f5) == ((rd_T41 l1 x5_1).f5)))))))) = false := by simpa using c7
   clear c7
   have H' := Aside0.mk H
   clear H
   have p129 : 0 ≤ (x5_1 : Int) := of_decide_eq_true (by first | (with_reducible assumption) | assumption)
   have q129 : x5_1 < (l0.length : Int) := of_decide_eq_true (by first | (with_reducible assumption) | assumption)
   obtain ⟨ad129, e129, hx129_0, hx129_1, hx129_2, hx129_3, hx129_4, hx129_5⟩ := at_T41 HR0.out x5_1 p129 q129
   cases e129
   replace p129 := eq_true p129
   replace q129 := eq_true q129
   have p130 : 0 ≤ (x5_1 : Int) := of_decide_eq_true (by first | (with_reducible assumption) | assumption)
   have q130 : x5_1 < (l1.length : Int) := of_decide_eq_true (by first | (with_reducible assumption) | assumption)
   obtain ⟨ad130, e130, hx130_0, hx130_1, hx130_2, hx130_3, hx130_4, hx130_5⟩ := at_T41 HR1.out x5_1 p130 q130
   cases e130
   replace p130 := eq_true p130
   replace q130 := eq_true q130
   go_wp2
   repeat (go_quiet (fail); try go_wp2)
   go_roundg k1
   case measure => have := HK1.out; omega
   case rel => exact ⟨(wrap64 (x5_1 + 1)), (by first | rfl | (simp; done) | (simp [*]; done)), H', ⟨by have := HK1.out; omega⟩, by repeat (first | exact Drawn0.refl _ | apply Drawn0.step)⟩

-- NOT PRINTED: function 7 (flyleaflaw15_RegionOnce)

/-! ### flyleaflaw15_Op_small: function 33 -/
def flyleaflaw15_Op_small.f (a0_0 : Int) (a0_1 : Int) (a0_2 : Int) (a0_3 : Int) (a0_4 : Bool) (a0_5 : Int) (a0_6 : Int) (a0_7 : Int) (a0_8 : Int) (a0_9 : Int) (a0_10 : Int) : Option (Int × Int × Int × Int × Bool × Int × Int × Int × Int × Int × Int) := if a0_4 = true then (some (a0_0, Go.bits .and .i64 a0_1 63, Go.bits .and .i64 a0_2 63, Go.bits .and .i64 a0_3 7, a0_4, Go.bits .and .i64 a0_5 63, Go.bits .and .i64 a0_6 63, a0_7, a0_8, a0_9, a0_10)) else (some (a0_0, a0_1, a0_2, a0_3, a0_4, a0_5, a0_6, a0_7, a0_8, a0_9, a0_10))
set_option maxHeartbeats 8000000 in
set_option maxRecDepth 100000 in
theorem flyleaflaw15_Op_small.calls (a0_0 : Int) (a0_1 : Int) (a0_2 : Int) (a0_3 : Int) (a0_4 : Bool) (a0_5 : Int) (a0_6 : Int) (a0_7 : Int) (a0_8 : Int) (a0_9 : Int) (a0_10 : Int) (r1 : Int) (r2 : Int) (r3 : Int) (r4 : Int) (r5 : Bool) (r6 : Int) (r7 : Int) (r8 : Int) (r9 : Int) (r10 : Int) (r11 : Int) (w : World) (h : flyleaflaw15_Op_small.f a0_0 a0_1 a0_2 a0_3 a0_4 a0_5 a0_6 a0_7 a0_8 a0_9 a0_10 = some (r1, r2, r3, r4, r5, r6, r7, r8, r9, r10, r11)) :
    Calls Try.prog 33 #[.agg #[.int .i64 a0_0, .int .i64 a0_1, .int .i64 a0_2, .int .i64 a0_3, .bool a0_4, .int .i64 a0_5, .int .i64 a0_6, .int .i64 a0_7, .int .i64 a0_8, .int .i64 a0_9, .int .i64 a0_10]] w fun e w' => e = .returned (.agg #[.int .i64 r1, .int .i64 r2, .int .i64 r3, .int .i64 r4, .bool r5, .int .i64 r6, .int .i64 r7, .int .i64 r8, .int .i64 r9, .int .i64 r10, .int .i64 r11]) ∧ Below w.heap.size w w' := by
 have hu69 := Try.underlying69
 have HB := Aside0.mk (Below.refl w.heap.size w)
 have H : (if a0_4 = true then (some (a0_0, Go.bits .and .i64 a0_1 63, Go.bits .and .i64 a0_2 63, Go.bits .and .i64 a0_3 7, a0_4, Go.bits .and .i64 a0_5 63, Go.bits .and .i64 a0_6 63, a0_7, a0_8, a0_9, a0_10)) else (some (a0_0, a0_1, a0_2, a0_3, a0_4, a0_5, a0_6, a0_7, a0_8, a0_9, a0_10))) = some (r1, r2, r3, r4, r5, r6, r7, r8, r9, r10, r11) := h
 clear h
 by_cases c2 : a0_4 = true
 rotate_left
 · replace c2 := Bool.eq_false_iff.mpr c2
   subst c2
   have H1 : (some (a0_0, a0_1, a0_2, a0_3, false, a0_5, a0_6, a0_7, a0_8, a0_9, a0_10)) = some (r1, r2, r3, r4, r5, r6, r7, r8, r9, r10, r11) := by rw [if_neg (show ¬ (false = true) by decide)] at H; exact H
   clear H
   have H := H1
   clear H1
   simp only [Option.some.injEq, Prod.mk.injEq] at H
   obtain ⟨rfl, rfl, rfl, rfl, rfl, rfl, rfl, rfl, rfl, rfl, rfl⟩ := H
   go_enter Try.func33, Try.ntmps33
   go_wp2_with (first | ((with_reducible refine gate_dst (N := 1) rfl ?_); refine box_event ?hg (N := 1) ?hd (cs := #[.int .i64 a0_0, .int .i64 a0_1, .int .i64 a0_2, .int .i64 a0_3, .bool false, .int .i64 a0_5, .int .i64 a0_6, .int .i64 a0_7, .int .i64 a0_8, .int .i64 a0_9, .int .i64 a0_10]) (t := 69) ?hr ?_; (case hd => rfl); (case hg => rfl); (case hr => first | (go_simp; done) | (go_simp; rfl)); intro gb131 hg w8 hbox hb; have n0_ := Aside0.mk (below_step (by repeat (first | (with_reducible first | exact HB.out | apply below_alloc | apply pw_below_drewN | apply below_drew1) | exact HB.out)) hb); have n1_ := Aside0.mk (hbox); have n2_ := Aside0.mk ((by rw [hg]; exact (below_size (by repeat (first | (with_reducible first | exact HB.out | apply below_alloc | apply pw_below_drewN | apply below_drew1) | exact HB.out))) : w.heap.size ≤ gb131)); have n3_ := Aside0.mk ((by rw [hg]; exact (below_size (by repeat (first | (with_reducible first | exact HB.out | apply below_alloc | apply pw_below_drewN | apply below_drew1) | exact HB.out))) : w.heap.size ≤ gb131)); clear HB; have HB := n0_; have BK131 := n1_; have GW131 := n2_; have GE131 := n3_; clear n0_ n1_ n2_ n3_; clear hb hbox hg) | ((with_reducible refine gate_dst (N := 2) rfl ?_); refine box_event ?hg (N := 2) ?hd (cs := #[.int .i64 0, .int .i64 0, .int .i64 0, .int .i64 0, .bool false, .int .i64 0, .int .i64 0, .int .i64 0, .int .i64 0, .int .i64 0, .int .i64 0]) (t := 69) ?hr ?_; (case hd => rfl); (case hg => rfl); (case hr => first | (go_simp; done) | (go_simp; rfl)); intro gb132 hg w9 hbox hb; have n0_ := Aside0.mk (blk_below (g := gb131) (o := .cells #[.int .i64 a0_0, .int .i64 a0_1, .int .i64 a0_2, .int .i64 a0_3, .bool false, .int .i64 a0_5, .int .i64 a0_6, .int .i64 a0_7, .int .i64 a0_8, .int .i64 a0_9, .int .i64 a0_10] 69 (0, 0)) (by (with_reducible repeat (first | refine blk_drewN ?_ _ | refine blk_drew ?_ | refine blk_alloc ?_ _)); exact BK131.out) hb); have n1_ := Aside0.mk (below_step (by repeat (first | (with_reducible first | exact HB.out | apply below_alloc | apply pw_below_drewN | apply below_drew1 | refine below_set ?_ GE131.out) | exact HB.out)) hb); have n2_ := Aside0.mk (hbox); have n3_ := Aside0.mk ((by rw [hg]; exact (below_size (by repeat (first | (with_reducible first | exact HB.out | apply below_alloc | apply pw_below_drewN | apply below_drew1 | refine below_set ?_ GE131.out) | exact HB.out))) : w.heap.size ≤ gb132)); have n4_ := Aside0.mk ((by rw [hg]; exact (below_size (by repeat (first | (with_reducible first | exact HB.out | apply below_alloc | apply pw_below_drewN | apply below_drew1 | refine below_set ?_ GE131.out) | exact HB.out))) : w.heap.size ≤ gb132)); have n5_ := Aside0.mk ((by rw [hg]; exact Nat.ne_of_lt (blk_lt (g := gb131) (o := .cells #[.int .i64 a0_0, .int .i64 a0_1, .int .i64 a0_2, .int .i64 a0_3, .bool false, .int .i64 a0_5, .int .i64 a0_6, .int .i64 a0_7, .int .i64 a0_8, .int .i64 a0_9, .int .i64 a0_10] 69 (0, 0)) (by (with_reducible repeat (first | refine blk_drewN ?_ _ | refine blk_drew ?_ | refine blk_alloc ?_ _)); exact BK131.out)) : gb131 ≠ gb132)); have n6_ := Aside0.mk ((by rw [hg]; exact Nat.ne_of_gt (blk_lt (g := gb131) (o := .cells #[.int .i64 a0_0, .int .i64 a0_1, .int .i64 a0_2, .int .i64 a0_3, .bool false, .int .i64 a0_5, .int .i64 a0_6, .int .i64 a0_7, .int .i64 a0_8, .int .i64 a0_9, .int .i64 a0_10] 69 (0, 0)) (by (with_reducible repeat (first | refine blk_drewN ?_ _ | refine blk_drew ?_ | refine blk_alloc ?_ _)); exact BK131.out)) : gb132 ≠ gb131)); clear BK131; clear HB; have BK131 := n0_; have HB := n1_; have BK132 := n2_; have GW132 := n3_; have GE132 := n4_; have NB131_132 := n5_; have NB132_131 := n6_; clear n0_ n1_ n2_ n3_ n4_ n5_ n6_; clear hb hbox hg; have hnb10 := NB131_132.out; have hnc10 := NB132_131.out; have hcz11_0 : w9.cell? ⟨gb131, 0, none⟩ = some (.int .i64 a0_0) := (blk_cell BK131.out 0).trans rfl; have hcz11_1 : w9.cell? ⟨gb131, 1, none⟩ = some (.int .i64 a0_1) := (blk_cell BK131.out 1).trans rfl; have hcz11_2 : w9.cell? ⟨gb131, 2, none⟩ = some (.int .i64 a0_2) := (blk_cell BK131.out 2).trans rfl; have hcz11_3 : w9.cell? ⟨gb131, 3, none⟩ = some (.int .i64 a0_3) := (blk_cell BK131.out 3).trans rfl; have hcz11_4 : w9.cell? ⟨gb131, 4, none⟩ = some (.bool false) := (blk_cell BK131.out 4).trans rfl; have hcz11_5 : w9.cell? ⟨gb131, 5, none⟩ = some (.int .i64 a0_5) := (blk_cell BK131.out 5).trans rfl; have hcz11_6 : w9.cell? ⟨gb131, 6, none⟩ = some (.int .i64 a0_6) := (blk_cell BK131.out 6).trans rfl; have hcz11_7 : w9.cell? ⟨gb131, 7, none⟩ = some (.int .i64 a0_7) := (blk_cell BK131.out 7).trans rfl; have hcz11_8 : w9.cell? ⟨gb131, 8, none⟩ = some (.int .i64 a0_8) := (blk_cell BK131.out 8).trans rfl; have hcz11_9 : w9.cell? ⟨gb131, 9, none⟩ = some (.int .i64 a0_9) := (blk_cell BK131.out 9).trans rfl; have hcz11_10 : w9.cell? ⟨gb131, 10, none⟩ = some (.int .i64 a0_10) := (blk_cell BK131.out 10).trans rfl; have hfz11_0 := blk_frozen BK131.out 0; have hfz11_1 := blk_frozen BK131.out 1; have hfz11_2 := blk_frozen BK131.out 2; have hfz11_3 := blk_frozen BK131.out 3; have hfz11_4 := blk_frozen BK131.out 4; have hfz11_5 := blk_frozen BK131.out 5; have hfz11_6 := blk_frozen BK131.out 6; have hfz11_7 := blk_frozen BK131.out 7; have hfz11_8 := blk_frozen BK131.out 8; have hfz11_9 := blk_frozen BK131.out 9; have hfz11_10 := blk_frozen BK131.out 10; have hcz12_0 : w9.cell? ⟨gb132, 0, none⟩ = some (.int .i64 0) := (blk_cell BK132.out 0).trans rfl; have hcz12_1 : w9.cell? ⟨gb132, 1, none⟩ = some (.int .i64 0) := (blk_cell BK132.out 1).trans rfl; have hcz12_2 : w9.cell? ⟨gb132, 2, none⟩ = some (.int .i64 0) := (blk_cell BK132.out 2).trans rfl; have hcz12_3 : w9.cell? ⟨gb132, 3, none⟩ = some (.int .i64 0) := (blk_cell BK132.out 3).trans rfl; have hcz12_4 : w9.cell? ⟨gb132, 4, none⟩ = some (.bool false) := (blk_cell BK132.out 4).trans rfl; have hcz12_5 : w9.cell? ⟨gb132, 5, none⟩ = some (.int .i64 0) := (blk_cell BK132.out 5).trans rfl; have hcz12_6 : w9.cell? ⟨gb132, 6, none⟩ = some (.int .i64 0) := (blk_cell BK132.out 6).trans rfl; have hcz12_7 : w9.cell? ⟨gb132, 7, none⟩ = some (.int .i64 0) := (blk_cell BK132.out 7).trans rfl; have hcz12_8 : w9.cell? ⟨gb132, 8, none⟩ = some (.int .i64 0) := (blk_cell BK132.out 8).trans rfl; have hcz12_9 : w9.cell? ⟨gb132, 9, none⟩ = some (.int .i64 0) := (blk_cell BK132.out 9).trans rfl; have hcz12_10 : w9.cell? ⟨gb132, 10, none⟩ = some (.int .i64 0) := (blk_cell BK132.out 10).trans rfl; have hfz12_0 := blk_frozen BK132.out 0; have hfz12_1 := blk_frozen BK132.out 1; have hfz12_2 := blk_frozen BK132.out 2; have hfz12_3 := blk_frozen BK132.out 3; have hfz12_4 := blk_frozen BK132.out 4; have hfz12_5 := blk_frozen BK132.out 5; have hfz12_6 := blk_frozen BK132.out 6; have hfz12_7 := blk_frozen BK132.out 7; have hfz12_8 := blk_frozen BK132.out 8; have hfz12_9 := blk_frozen BK132.out 9; have hfz12_10 := blk_frozen BK132.out 10))
   refine bodyPost_ret (results_cell_row rfl _ _ gb132 69 #[.int .i64 a0_0, .int .i64 a0_1, .int .i64 a0_2, .int .i64 a0_3, .bool false, .int .i64 a0_5, .int .i64 a0_6, .int .i64 a0_7, .int .i64 a0_8, .int .i64 a0_9, .int .i64 a0_10] (0, 0) _ rfl (by (with_reducible repeat (first | refine blk_drewN ?_ _ | refine blk_drew ?_ | refine blk_alloc ?_ _)); refine blk_put (cs := #[.int .i64 a0_0, .int .i64 a0_1, .int .i64 a0_2, .int .i64 a0_3, .bool false, .int .i64 a0_5, .int .i64 a0_6, .int .i64 a0_7, .int .i64 a0_8, .int .i64 a0_9, .int .i64 0]) ?_ 10 _ rfl; (with_reducible repeat (first | refine blk_drewN ?_ _ | refine blk_drew ?_ | refine blk_alloc ?_ _)); refine blk_put (cs := #[.int .i64 a0_0, .int .i64 a0_1, .int .i64 a0_2, .int .i64 a0_3, .bool false, .int .i64 a0_5, .int .i64 a0_6, .int .i64 a0_7, .int .i64 a0_8, .int .i64 0, .int .i64 0]) ?_ 9 _ rfl; (with_reducible repeat (first | refine blk_drewN ?_ _ | refine blk_drew ?_ | refine blk_alloc ?_ _)); refine blk_put (cs := #[.int .i64 a0_0, .int .i64 a0_1, .int .i64 a0_2, .int .i64 a0_3, .bool false, .int .i64 a0_5, .int .i64 a0_6, .int .i64 a0_7, .int .i64 0, .int .i64 0, .int .i64 0]) ?_ 8 _ rfl; (with_reducible repeat (first | refine blk_drewN ?_ _ | refine blk_drew ?_ | refine blk_alloc ?_ _)); refine blk_put (cs := #[.int .i64 a0_0, .int .i64 a0_1, .int .i64 a0_2, .int .i64 a0_3, .bool false, .int .i64 a0_5, .int .i64 a0_6, .int .i64 0, .int .i64 0, .int .i64 0, .int .i64 0]) ?_ 7 _ rfl; (with_reducible repeat (first | refine blk_drewN ?_ _ | refine blk_drew ?_ | refine blk_alloc ?_ _)); refine blk_put (cs := #[.int .i64 a0_0, .int .i64 a0_1, .int .i64 a0_2, .int .i64 a0_3, .bool false, .int .i64 a0_5, .int .i64 0, .int .i64 0, .int .i64 0, .int .i64 0, .int .i64 0]) ?_ 6 _ rfl; (with_reducible repeat (first | refine blk_drewN ?_ _ | refine blk_drew ?_ | refine blk_alloc ?_ _)); refine blk_put (cs := #[.int .i64 a0_0, .int .i64 a0_1, .int .i64 a0_2, .int .i64 a0_3, .bool false, .int .i64 0, .int .i64 0, .int .i64 0, .int .i64 0, .int .i64 0, .int .i64 0]) ?_ 5 _ rfl; (with_reducible repeat (first | refine blk_drewN ?_ _ | refine blk_drew ?_ | refine blk_alloc ?_ _)); refine blk_put (cs := #[.int .i64 a0_0, .int .i64 a0_1, .int .i64 a0_2, .int .i64 a0_3, .bool false, .int .i64 0, .int .i64 0, .int .i64 0, .int .i64 0, .int .i64 0, .int .i64 0]) ?_ 4 _ rfl; (with_reducible repeat (first | refine blk_drewN ?_ _ | refine blk_drew ?_ | refine blk_alloc ?_ _)); refine blk_put (cs := #[.int .i64 a0_0, .int .i64 a0_1, .int .i64 a0_2, .int .i64 0, .bool false, .int .i64 0, .int .i64 0, .int .i64 0, .int .i64 0, .int .i64 0, .int .i64 0]) ?_ 3 _ rfl; (with_reducible repeat (first | refine blk_drewN ?_ _ | refine blk_drew ?_ | refine blk_alloc ?_ _)); refine blk_put (cs := #[.int .i64 a0_0, .int .i64 a0_1, .int .i64 0, .int .i64 0, .bool false, .int .i64 0, .int .i64 0, .int .i64 0, .int .i64 0, .int .i64 0, .int .i64 0]) ?_ 2 _ rfl; (with_reducible repeat (first | refine blk_drewN ?_ _ | refine blk_drew ?_ | refine blk_alloc ?_ _)); refine blk_put (cs := #[.int .i64 a0_0, .int .i64 0, .int .i64 0, .int .i64 0, .bool false, .int .i64 0, .int .i64 0, .int .i64 0, .int .i64 0, .int .i64 0, .int .i64 0]) ?_ 1 _ rfl; (with_reducible repeat (first | refine blk_drewN ?_ _ | refine blk_drew ?_ | refine blk_alloc ?_ _)); refine blk_put (cs := #[.int .i64 0, .int .i64 0, .int .i64 0, .int .i64 0, .bool false, .int .i64 0, .int .i64 0, .int .i64 0, .int .i64 0, .int .i64 0, .int .i64 0]) ?_ 0 _ rfl; (with_reducible repeat (first | refine blk_drewN ?_ _ | refine blk_drew ?_ | refine blk_alloc ?_ _)); exact BK132.out) Try.underlying69 rfl (by kernel_rfl)) rfl ?_
   exact ⟨by first | rfl | (simp [errW_none, errW_some] <;> rfl) | (simp [*, errW_none, errW_some] <;> rfl), by repeat (first | (with_reducible first | exact HB.out | apply below_alloc | apply pw_below_drewN | apply below_drew1 | refine below_set ?_ GE131.out | refine below_set ?_ GE132.out) | exact HB.out)⟩
 subst c2
 have H1 : (some (a0_0, Go.bits .and .i64 a0_1 63, Go.bits .and .i64 a0_2 63, Go.bits .and .i64 a0_3 7, true, Go.bits .and .i64 a0_5 63, Go.bits .and .i64 a0_6 63, a0_7, a0_8, a0_9, a0_10)) = some (r1, r2, r3, r4, r5, r6, r7, r8, r9, r10, r11) := by rw [if_pos rfl] at H; exact H
 clear H
 have H := H1
 clear H1
 simp only [Option.some.injEq, Prod.mk.injEq] at H
 obtain ⟨rfl, rfl, rfl, rfl, rfl, rfl, rfl, rfl, rfl, rfl, rfl⟩ := H
 go_enter Try.func33, Try.ntmps33
 go_wp2_with (first | ((with_reducible refine gate_dst (N := 1) rfl ?_); refine box_event ?hg (N := 1) ?hd (cs := #[.int .i64 a0_0, .int .i64 a0_1, .int .i64 a0_2, .int .i64 a0_3, .bool true, .int .i64 a0_5, .int .i64 a0_6, .int .i64 a0_7, .int .i64 a0_8, .int .i64 a0_9, .int .i64 a0_10]) (t := 69) ?hr ?_; (case hd => rfl); (case hg => rfl); (case hr => first | (go_simp; done) | (go_simp; rfl)); intro gb131 hg w3 hbox hb; have n0_ := Aside0.mk (below_step (by repeat (first | (with_reducible first | exact HB.out | apply below_alloc | apply pw_below_drewN | apply below_drew1) | exact HB.out)) hb); have n1_ := Aside0.mk (hbox); have n2_ := Aside0.mk ((by rw [hg]; exact (below_size (by repeat (first | (with_reducible first | exact HB.out | apply below_alloc | apply pw_below_drewN | apply below_drew1) | exact HB.out))) : w.heap.size ≤ gb131)); have n3_ := Aside0.mk ((by rw [hg]; exact (below_size (by repeat (first | (with_reducible first | exact HB.out | apply below_alloc | apply pw_below_drewN | apply below_drew1) | exact HB.out))) : w.heap.size ≤ gb131)); clear HB; have HB := n0_; have BK131 := n1_; have GW131 := n2_; have GE131 := n3_; clear n0_ n1_ n2_ n3_; clear hb hbox hg) | ((with_reducible refine gate_dst (N := 2) rfl ?_); refine box_event ?hg (N := 2) ?hd (cs := #[.int .i64 0, .int .i64 0, .int .i64 0, .int .i64 0, .bool false, .int .i64 0, .int .i64 0, .int .i64 0, .int .i64 0, .int .i64 0, .int .i64 0]) (t := 69) ?hr ?_; (case hd => rfl); (case hg => rfl); (case hr => first | (go_simp; done) | (go_simp; rfl)); intro gb132 hg w4 hbox hb; have n0_ := Aside0.mk (blk_below (g := gb131) (o := .cells #[.int .i64 a0_0, .int .i64 a0_1, .int .i64 a0_2, .int .i64 a0_3, .bool true, .int .i64 a0_5, .int .i64 a0_6, .int .i64 a0_7, .int .i64 a0_8, .int .i64 a0_9, .int .i64 a0_10] 69 (0, 0)) (by (with_reducible repeat (first | refine blk_drewN ?_ _ | refine blk_drew ?_ | refine blk_alloc ?_ _)); exact BK131.out) hb); have n1_ := Aside0.mk (below_step (by repeat (first | (with_reducible first | exact HB.out | apply below_alloc | apply pw_below_drewN | apply below_drew1 | refine below_set ?_ GE131.out) | exact HB.out)) hb); have n2_ := Aside0.mk (hbox); have n3_ := Aside0.mk ((by rw [hg]; exact (below_size (by repeat (first | (with_reducible first | exact HB.out | apply below_alloc | apply pw_below_drewN | apply below_drew1 | refine below_set ?_ GE131.out) | exact HB.out))) : w.heap.size ≤ gb132)); have n4_ := Aside0.mk ((by rw [hg]; exact (below_size (by repeat (first | (with_reducible first | exact HB.out | apply below_alloc | apply pw_below_drewN | apply below_drew1 | refine below_set ?_ GE131.out) | exact HB.out))) : w.heap.size ≤ gb132)); have n5_ := Aside0.mk ((by rw [hg]; exact Nat.ne_of_lt (blk_lt (g := gb131) (o := .cells #[.int .i64 a0_0, .int .i64 a0_1, .int .i64 a0_2, .int .i64 a0_3, .bool true, .int .i64 a0_5, .int .i64 a0_6, .int .i64 a0_7, .int .i64 a0_8, .int .i64 a0_9, .int .i64 a0_10] 69 (0, 0)) (by (with_reducible repeat (first | refine blk_drewN ?_ _ | refine blk_drew ?_ | refine blk_alloc ?_ _)); exact BK131.out)) : gb131 ≠ gb132)); have n6_ := Aside0.mk ((by rw [hg]; exact Nat.ne_of_gt (blk_lt (g := gb131) (o := .cells #[.int .i64 a0_0, .int .i64 a0_1, .int .i64 a0_2, .int .i64 a0_3, .bool true, .int .i64 a0_5, .int .i64 a0_6, .int .i64 a0_7, .int .i64 a0_8, .int .i64 a0_9, .int .i64 a0_10] 69 (0, 0)) (by (with_reducible repeat (first | refine blk_drewN ?_ _ | refine blk_drew ?_ | refine blk_alloc ?_ _)); exact BK131.out)) : gb132 ≠ gb131)); clear BK131; clear HB; have BK131 := n0_; have HB := n1_; have BK132 := n2_; have GW132 := n3_; have GE132 := n4_; have NB131_132 := n5_; have NB132_131 := n6_; clear n0_ n1_ n2_ n3_ n4_ n5_ n6_; clear hb hbox hg; have hnb5 := NB131_132.out; have hnc5 := NB132_131.out; have hcz6_0 : w4.cell? ⟨gb131, 0, none⟩ = some (.int .i64 a0_0) := (blk_cell BK131.out 0).trans rfl; have hcz6_1 : w4.cell? ⟨gb131, 1, none⟩ = some (.int .i64 a0_1) := (blk_cell BK131.out 1).trans rfl; have hcz6_2 : w4.cell? ⟨gb131, 2, none⟩ = some (.int .i64 a0_2) := (blk_cell BK131.out 2).trans rfl; have hcz6_3 : w4.cell? ⟨gb131, 3, none⟩ = some (.int .i64 a0_3) := (blk_cell BK131.out 3).trans rfl; have hcz6_4 : w4.cell? ⟨gb131, 4, none⟩ = some (.bool true) := (blk_cell BK131.out 4).trans rfl; have hcz6_5 : w4.cell? ⟨gb131, 5, none⟩ = some (.int .i64 a0_5) := (blk_cell BK131.out 5).trans rfl; have hcz6_6 : w4.cell? ⟨gb131, 6, none⟩ = some (.int .i64 a0_6) := (blk_cell BK131.out 6).trans rfl; have hcz6_7 : w4.cell? ⟨gb131, 7, none⟩ = some (.int .i64 a0_7) := (blk_cell BK131.out 7).trans rfl; have hcz6_8 : w4.cell? ⟨gb131, 8, none⟩ = some (.int .i64 a0_8) := (blk_cell BK131.out 8).trans rfl; have hcz6_9 : w4.cell? ⟨gb131, 9, none⟩ = some (.int .i64 a0_9) := (blk_cell BK131.out 9).trans rfl; have hcz6_10 : w4.cell? ⟨gb131, 10, none⟩ = some (.int .i64 a0_10) := (blk_cell BK131.out 10).trans rfl; have hfz6_0 := blk_frozen BK131.out 0; have hfz6_1 := blk_frozen BK131.out 1; have hfz6_2 := blk_frozen BK131.out 2; have hfz6_3 := blk_frozen BK131.out 3; have hfz6_4 := blk_frozen BK131.out 4; have hfz6_5 := blk_frozen BK131.out 5; have hfz6_6 := blk_frozen BK131.out 6; have hfz6_7 := blk_frozen BK131.out 7; have hfz6_8 := blk_frozen BK131.out 8; have hfz6_9 := blk_frozen BK131.out 9; have hfz6_10 := blk_frozen BK131.out 10; have hcz7_0 : w4.cell? ⟨gb132, 0, none⟩ = some (.int .i64 0) := (blk_cell BK132.out 0).trans rfl; have hcz7_1 : w4.cell? ⟨gb132, 1, none⟩ = some (.int .i64 0) := (blk_cell BK132.out 1).trans rfl; have hcz7_2 : w4.cell? ⟨gb132, 2, none⟩ = some (.int .i64 0) := (blk_cell BK132.out 2).trans rfl; have hcz7_3 : w4.cell? ⟨gb132, 3, none⟩ = some (.int .i64 0) := (blk_cell BK132.out 3).trans rfl; have hcz7_4 : w4.cell? ⟨gb132, 4, none⟩ = some (.bool false) := (blk_cell BK132.out 4).trans rfl; have hcz7_5 : w4.cell? ⟨gb132, 5, none⟩ = some (.int .i64 0) := (blk_cell BK132.out 5).trans rfl; have hcz7_6 : w4.cell? ⟨gb132, 6, none⟩ = some (.int .i64 0) := (blk_cell BK132.out 6).trans rfl; have hcz7_7 : w4.cell? ⟨gb132, 7, none⟩ = some (.int .i64 0) := (blk_cell BK132.out 7).trans rfl; have hcz7_8 : w4.cell? ⟨gb132, 8, none⟩ = some (.int .i64 0) := (blk_cell BK132.out 8).trans rfl; have hcz7_9 : w4.cell? ⟨gb132, 9, none⟩ = some (.int .i64 0) := (blk_cell BK132.out 9).trans rfl; have hcz7_10 : w4.cell? ⟨gb132, 10, none⟩ = some (.int .i64 0) := (blk_cell BK132.out 10).trans rfl; have hfz7_0 := blk_frozen BK132.out 0; have hfz7_1 := blk_frozen BK132.out 1; have hfz7_2 := blk_frozen BK132.out 2; have hfz7_3 := blk_frozen BK132.out 3; have hfz7_4 := blk_frozen BK132.out 4; have hfz7_5 := blk_frozen BK132.out 5; have hfz7_6 := blk_frozen BK132.out 6; have hfz7_7 := blk_frozen BK132.out 7; have hfz7_8 := blk_frozen BK132.out 8; have hfz7_9 := blk_frozen BK132.out 9; have hfz7_10 := blk_frozen BK132.out 10))
 refine bodyPost_ret (results_cell_row rfl _ _ gb132 69 #[.int .i64 a0_0, .int .i64 (Go.bits .and .i64 a0_1 63), .int .i64 (Go.bits .and .i64 a0_2 63), .int .i64 (Go.bits .and .i64 a0_3 7), .bool true, .int .i64 (Go.bits .and .i64 a0_5 63), .int .i64 (Go.bits .and .i64 a0_6 63), .int .i64 a0_7, .int .i64 a0_8, .int .i64 a0_9, .int .i64 a0_10] (0, 0) _ rfl (by (with_reducible repeat (first | refine blk_drewN ?_ _ | refine blk_drew ?_ | refine blk_alloc ?_ _)); refine blk_put (cs := #[.int .i64 a0_0, .int .i64 (Go.bits .and .i64 a0_1 63), .int .i64 (Go.bits .and .i64 a0_2 63), .int .i64 (Go.bits .and .i64 a0_3 7), .bool true, .int .i64 (Go.bits .and .i64 a0_5 63), .int .i64 (Go.bits .and .i64 a0_6 63), .int .i64 a0_7, .int .i64 a0_8, .int .i64 a0_9, .int .i64 0]) ?_ 10 _ rfl; (with_reducible repeat (first | refine blk_drewN ?_ _ | refine blk_drew ?_ | refine blk_alloc ?_ _)); refine blk_put (cs := #[.int .i64 a0_0, .int .i64 (Go.bits .and .i64 a0_1 63), .int .i64 (Go.bits .and .i64 a0_2 63), .int .i64 (Go.bits .and .i64 a0_3 7), .bool true, .int .i64 (Go.bits .and .i64 a0_5 63), .int .i64 (Go.bits .and .i64 a0_6 63), .int .i64 a0_7, .int .i64 a0_8, .int .i64 0, .int .i64 0]) ?_ 9 _ rfl; (with_reducible repeat (first | refine blk_drewN ?_ _ | refine blk_drew ?_ | refine blk_alloc ?_ _)); refine blk_put (cs := #[.int .i64 a0_0, .int .i64 (Go.bits .and .i64 a0_1 63), .int .i64 (Go.bits .and .i64 a0_2 63), .int .i64 (Go.bits .and .i64 a0_3 7), .bool true, .int .i64 (Go.bits .and .i64 a0_5 63), .int .i64 (Go.bits .and .i64 a0_6 63), .int .i64 a0_7, .int .i64 0, .int .i64 0, .int .i64 0]) ?_ 8 _ rfl; (with_reducible repeat (first | refine blk_drewN ?_ _ | refine blk_drew ?_ | refine blk_alloc ?_ _)); refine blk_put (cs := #[.int .i64 a0_0, .int .i64 (Go.bits .and .i64 a0_1 63), .int .i64 (Go.bits .and .i64 a0_2 63), .int .i64 (Go.bits .and .i64 a0_3 7), .bool true, .int .i64 (Go.bits .and .i64 a0_5 63), .int .i64 (Go.bits .and .i64 a0_6 63), .int .i64 0, .int .i64 0, .int .i64 0, .int .i64 0]) ?_ 7 _ rfl; (with_reducible repeat (first | refine blk_drewN ?_ _ | refine blk_drew ?_ | refine blk_alloc ?_ _)); refine blk_put (cs := #[.int .i64 a0_0, .int .i64 (Go.bits .and .i64 a0_1 63), .int .i64 (Go.bits .and .i64 a0_2 63), .int .i64 (Go.bits .and .i64 a0_3 7), .bool true, .int .i64 (Go.bits .and .i64 a0_5 63), .int .i64 0, .int .i64 0, .int .i64 0, .int .i64 0, .int .i64 0]) ?_ 6 _ rfl; (with_reducible repeat (first | refine blk_drewN ?_ _ | refine blk_drew ?_ | refine blk_alloc ?_ _)); refine blk_put (cs := #[.int .i64 a0_0, .int .i64 (Go.bits .and .i64 a0_1 63), .int .i64 (Go.bits .and .i64 a0_2 63), .int .i64 (Go.bits .and .i64 a0_3 7), .bool true, .int .i64 0, .int .i64 0, .int .i64 0, .int .i64 0, .int .i64 0, .int .i64 0]) ?_ 5 _ rfl; (with_reducible repeat (first | refine blk_drewN ?_ _ | refine blk_drew ?_ | refine blk_alloc ?_ _)); refine blk_put (cs := #[.int .i64 a0_0, .int .i64 (Go.bits .and .i64 a0_1 63), .int .i64 (Go.bits .and .i64 a0_2 63), .int .i64 (Go.bits .and .i64 a0_3 7), .bool false, .int .i64 0, .int .i64 0, .int .i64 0, .int .i64 0, .int .i64 0, .int .i64 0]) ?_ 4 _ rfl; (with_reducible repeat (first | refine blk_drewN ?_ _ | refine blk_drew ?_ | refine blk_alloc ?_ _)); refine blk_put (cs := #[.int .i64 a0_0, .int .i64 (Go.bits .and .i64 a0_1 63), .int .i64 (Go.bits .and .i64 a0_2 63), .int .i64 0, .bool false, .int .i64 0, .int .i64 0, .int .i64 0, .int .i64 0, .int .i64 0, .int .i64 0]) ?_ 3 _ rfl; (with_reducible repeat (first | refine blk_drewN ?_ _ | refine blk_drew ?_ | refine blk_alloc ?_ _)); refine blk_put (cs := #[.int .i64 a0_0, .int .i64 (Go.bits .and .i64 a0_1 63), .int .i64 0, .int .i64 0, .bool false, .int .i64 0, .int .i64 0, .int .i64 0, .int .i64 0, .int .i64 0, .int .i64 0]) ?_ 2 _ rfl; (with_reducible repeat (first | refine blk_drewN ?_ _ | refine blk_drew ?_ | refine blk_alloc ?_ _)); refine blk_put (cs := #[.int .i64 a0_0, .int .i64 0, .int .i64 0, .int .i64 0, .bool false, .int .i64 0, .int .i64 0, .int .i64 0, .int .i64 0, .int .i64 0, .int .i64 0]) ?_ 1 _ rfl; (with_reducible repeat (first | refine blk_drewN ?_ _ | refine blk_drew ?_ | refine blk_alloc ?_ _)); refine blk_put (cs := #[.int .i64 0, .int .i64 0, .int .i64 0, .int .i64 0, .bool false, .int .i64 0, .int .i64 0, .int .i64 0, .int .i64 0, .int .i64 0, .int .i64 0]) ?_ 0 _ rfl; (with_reducible repeat (first | refine blk_drewN ?_ _ | refine blk_drew ?_ | refine blk_alloc ?_ _)); refine blk_far ?_ NB132_131.out _; (with_reducible repeat (first | refine blk_drewN ?_ _ | refine blk_drew ?_ | refine blk_alloc ?_ _)); refine blk_far ?_ NB132_131.out _; (with_reducible repeat (first | refine blk_drewN ?_ _ | refine blk_drew ?_ | refine blk_alloc ?_ _)); refine blk_far ?_ NB132_131.out _; (with_reducible repeat (first | refine blk_drewN ?_ _ | refine blk_drew ?_ | refine blk_alloc ?_ _)); refine blk_far ?_ NB132_131.out _; (with_reducible repeat (first | refine blk_drewN ?_ _ | refine blk_drew ?_ | refine blk_alloc ?_ _)); refine blk_far ?_ NB132_131.out _; (with_reducible repeat (first | refine blk_drewN ?_ _ | refine blk_drew ?_ | refine blk_alloc ?_ _)); exact BK132.out) Try.underlying69 rfl (by kernel_rfl)) rfl ?_
 exact ⟨by first | rfl | (simp [errW_none, errW_some] <;> rfl) | (simp [*, errW_none, errW_some] <;> rfl), by repeat (first | (with_reducible first | exact HB.out | apply below_alloc | apply pw_below_drewN | apply below_drew1 | refine below_set ?_ GE131.out | refine below_set ?_ GE132.out) | exact HB.out)⟩

/-! ### flyleafref15_Spread: function 44 -/
mutual
def flyleafref15_Spread.l0 : Nat → List (S41) → List (S87) → Int → Option ((List (S87)))
  | 0, _, _, _ => none
  | k + 1, x0, x3, x4 => if x4 < (x0.length : Int) then (if 0 ≤ x4 then (flyleafref15_Spread.l1 k x0 x3 x4 ((rd_T41 x0 x4).f0)) else (none)) else (some x3)
def flyleafref15_Spread.l1 : Nat → List (S41) → List (S87) → Int → Int → Option ((List (S87)))
  | 0, _, _, _, _ => none
  | k + 1, x0, x3, x4, x5 => if 0 ≤ x4 then (if x4 < (x0.length : Int) then (if x5 < ((rd_T41 x0 x4).f1) then (if ((rd_T41 x0 x4).f3) = 1 then (if 0 ≤ x5 then (if x5 < (x3.length : Int) then (flyleafref15_Spread.l1 k x0 (x3.set (x5 : Int).toNat (⟨(⟨x5, wrap64 (x5 + 1), (rd_T41 x0 x4).f2, (rd_T41 x0 x4).f3, (rd_T41 x0 x4).f4, wrap64 ((wrap64 (((rd_T41 x0 x4).f5) + x5)) - ((rd_T41 x0 x4).f0))⟩ : S41), true⟩ : S87)) x4 (wrap64 (x5 + 1))) else (none)) else (none)) else (if 0 ≤ x5 then (if x5 < (x3.length : Int) then (flyleafref15_Spread.l1 k x0 (x3.set (x5 : Int).toNat (⟨(⟨x5, wrap64 (x5 + 1), (rd_T41 x0 x4).f2, (rd_T41 x0 x4).f3, (rd_T41 x0 x4).f4, (rd_T41 x0 x4).f5⟩ : S41), true⟩ : S87)) x4 (wrap64 (x5 + 1))) else (none)) else (none))) else (flyleafref15_Spread.l0 k x0 x3 (wrap64 (x4 + 1)))) else (none)) else (none)
end
def flyleafref15_Spread.f (k : Nat) (l0 : List (S41)) : Option ((List (S87))) := if 4096 ≤ 5026338869833 then (flyleafref15_Spread.l0 k l0 (List.replicate 4096 z87) 0) else (none)
theorem flyleafref15_Spread.mono_l : ∀ k, (∀ y0 y1 y2, LeO (flyleafref15_Spread.l0 k y0 y1 y2) (flyleafref15_Spread.l0 (k + 1) y0 y1 y2)) ∧ (∀ y0 y1 y2 y3, LeO (flyleafref15_Spread.l1 k y0 y1 y2 y3) (flyleafref15_Spread.l1 (k + 1) y0 y1 y2 y3))
  | 0 => ⟨fun _ _ _ r h => by simp [flyleafref15_Spread.l0] at h, fun _ _ _ _ r h => by simp [flyleafref15_Spread.l1] at h⟩
  | k + 1 => by
    obtain ⟨ih0, ih1⟩ := flyleafref15_Spread.mono_l k
    refine ⟨?_, ?_⟩
    · intro y0 y1 y2
      unfold flyleafref15_Spread.l0
      repeat' first
      | (with_reducible exact ih0 _ _ _)
      | (with_reducible exact ih1 _ _ _ _)
      | (with_reducible exact LeO.refl _)
      | (with_reducible exact LeO.none _)
      | (with_reducible refine LeO.ite ?_ ?_)
      | (with_reducible refine LeO.bind ?_ (fun _ => ?_))
      | exact ih0 _ _ _
      | exact ih1 _ _ _ _
      | exact LeO.none _
      | refine LeO.ite ?_ ?_
      | refine LeO.bind ?_ (fun _ => ?_)
    · intro y0 y1 y2 y3
      unfold flyleafref15_Spread.l1
      repeat' first
      | (with_reducible exact ih0 _ _ _)
      | (with_reducible exact ih1 _ _ _ _)
      | (with_reducible exact LeO.refl _)
      | (with_reducible exact LeO.none _)
      | (with_reducible refine LeO.ite ?_ ?_)
      | (with_reducible refine LeO.bind ?_ (fun _ => ?_))
      | exact ih0 _ _ _
      | exact ih1 _ _ _ _
      | exact LeO.none _
      | refine LeO.ite ?_ ?_
      | refine LeO.bind ?_ (fun _ => ?_)
theorem flyleafref15_Spread.mono : ∀ a0 k, LeO (flyleafref15_Spread.f k a0) (flyleafref15_Spread.f (k + 1) a0) := by
  intro a0 k
  obtain ⟨ih0, ih1⟩ := flyleafref15_Spread.mono_l k
  unfold flyleafref15_Spread.f
  repeat' first
      | (with_reducible exact ih0 _ _ _)
      | (with_reducible exact ih1 _ _ _ _)
      | (with_reducible exact LeO.refl _)
      | (with_reducible exact LeO.none _)
      | (with_reducible refine LeO.ite ?_ ?_)
      | (with_reducible refine LeO.bind ?_ (fun _ => ?_))
      | exact ih0 _ _ _
      | exact ih1 _ _ _ _
      | exact LeO.none _
      | refine LeO.ite ?_ ?_
      | refine LeO.bind ?_ (fun _ => ?_)
def flyleafref15_Spread.T12 : Bool × List (List Nat × List Nat) := (true, [([], []), ([0], [0]), ([], []), ([1, 2], [1, 2]), ([], []), ([], []), ([4, 5], [4, 5]), ([6], [6]), ([7], [7]), ([3, 8], [3, 8]), ([0, 1, 2, 3, 4, 5, 6, 7, 8, 9], []), ([10, 9, 0, 1, 2, 3, 4, 5, 6, 7, 8, 9], [9, 10])])
def flyleafref15_Spread.B12 : List Nat := [0, 1, 0, 7, 0, 0, 48, 112, 240, 511, 1023, 2047]
theorem flyleafref15_Spread.tab12 : rtab .any (opsOf Try.f44 12) = flyleafref15_Spread.T12 := by kernel_rfl
theorem flyleafref15_Spread.bits12 : waitsOk flyleafref15_Spread.T12.2 flyleafref15_Spread.B12 = true := by kernel_rfl
set_option maxHeartbeats 8000000 in
set_option maxRecDepth 100000 in
theorem flyleafref15_Spread.calls (k : Nat) (A0 : Option Addr) (c0 : Nat) (l0 : List (S41)) (r : List (S87)) (w : World) (hr0 : Kd.C k41 w A0 l0.length l0) (hc0 : l0.length ≤ c0) (h : flyleafref15_Spread.f k l0 = some r) :
    Calls Try.prog 44 #[.slice A0 l0.length c0] w fun e w' => ∃ v0_ : Value, e = .returned (v0_) ∧ Kd.R k87 87 w' w.heap.size (fun _ => True) v0_ r ∧ Below w.heap.size w w' := by
 have hu41 := Try.underlying41
 have hu87 := Try.underlying87
 have HR0 := Aside0.mk hr0
 have HC0 := Aside0.mk hc0
 clear hr0 hc0
 have HB := Aside0.mk (Below.refl w.heap.size w)
 have H : (if 4096 ≤ 5026338869833 then (flyleafref15_Spread.l0 k l0 (List.replicate 4096 z87) 0) else (none)) = some r := h
 clear h
 by_cases c2 : 4096 ≤ 5026338869833
 rotate_left
 · rw [if_neg c2] at H
   exact absurd H (by simp)
 rw [if_pos c2] at H
 have c2b0 := eq_true c2
 have c2b1 : decide (4096 ≤ 5026338869833) = true := decide_eq_true c2
 clear c2
 obtain ⟨y133, hy133⟩ : ∃ y_ : List (S87), y_ = (List.replicate 4096 z87) := ⟨_, rfl⟩
 replace H : (flyleafref15_Spread.l0 k l0 y133 0) = some r := by first | (rw [hy133]; with_reducible exact H) | (have H2_ := (Option.bind_some _ _).symm.trans H; rw [hy133]; with_reducible exact H2_) | (have H2_ := (Option.bind_some _ _).symm.trans H; with_reducible exact H2_) | with_reducible exact H | (rw [hy133]; exact H) | exact H
 have Ny133 := Aside0.mk hy133
 clear hy133
 have H' := Aside0.mk H
 clear H
 go_enter Try.func44, Try.ntmps44
 go_wp2_with (first | ((with_reducible refine gate_dst (N := 7) rfl ?_); refine Kd.R_make k87 _ 87 rfl (N := 7) rfl 84 _ _ rfl 4096 rfl rfl Try.underlying84 (.agg #[(.int .i64 0), (.int .i64 0), (.int .i64 0), (.int .i64 0), (.int .i64 0), (.int .i64 0), (.bool false)]) 56 info87 rfl (by decide) (by omega) z87 (ok := fun _ => True) (okp := fun _ => True) (k87_mkM _ _ _ z87 ) (fun _ hk => hk) trivial (by omega) (by omega) (Below.refl _ _) (Nat.le_refl _) ?_; intro v134 w3 ho4 hb hg_ hnew_; clear hg_ hnew_; (first | rw [← Ny133.out] at ho4 | (simp only [Int.reduceToNat] at ho4; rw [← Ny133.out] at ho4)); have n0_ := Aside0.mk (Kd.R_lower ho4 (below_size (by repeat (first | (with_reducible first | exact HB.out | apply below_alloc | apply pw_below_drewN | apply below_drew1) | exact HB.out)))); have n1_ := Aside0.mk (below_step (by repeat (first | (with_reducible first | exact HB.out | apply below_alloc | apply pw_below_drewN | apply below_drew1) | exact HB.out)) hb); clear HB; have HO135 := n0_; have HB := n1_; clear n0_ n1_; clear hb ho4))
 go_loopg [4] k (fun kq v4 w' => ∃ (x3_1 : List (S87)) (x4_1 : Int), v4 = .int .i64 x4_1 ∧ Aside0 (flyleafref15_Spread.l0 kq l0 x3_1 x4_1 = some r) ∧ Aside0 (kq ≤ k) ∧ Aside0 (Kd.R k87 87 w' w.heap.size (fun _ => True) v134 x3_1) ∧ Aside0 (Below w.heap.size w w'))
 case atStart => exact ⟨(y133), (0), (by first | rfl | (simp; done) | (simp [*]; done)), H', ⟨Nat.le_refl _⟩, ⟨by (with_reducible repeat (first | apply Kd.R_alloc | apply Kd.R_drewN | apply Kd.R_drew)); exact HO135.out⟩, ⟨by repeat (first | (with_reducible first | exact HB.out | apply below_alloc | apply pw_below_drewN | apply below_drew1) | exact HB.out)⟩⟩
 case round =>
  clear H'
  try clear c2
  try clear c2b0
  try clear c2b1
  try clear p2
  try clear c4
  obtain ⟨x3_1, x4_1, rfl, HA, HK1, HO_3, HB⟩ := hrel
  cases gk with
  | zero => exact absurd HA.out (by simp [flyleafref15_Spread.l0])
  | succ k1 =>
   have H := HA.out
   clear HA
   simp only [flyleafref15_Spread.l0] at H
   by_cases c5 : x4_1 < (l0.length : Int)
   rotate_left
   · rw [if_neg c5] at H
     have c5b0 : decide (x4_1 < (l0.length : Int)) = false := decide_eq_false c5
     clear c5
     obtain rfl := Option.some.inj H
     go_wp2
     go_ret
     exact ⟨_, by first | rfl | (simp [errW_none, errW_some] <;> rfl) | (simp [*, errW_none, errW_some] <;> rfl), by (with_reducible repeat (first | apply Kd.R_alloc | apply Kd.R_drewN | apply Kd.R_drew)); exact HO_3.out, by repeat (first | (with_reducible first | exact HB.out | apply below_alloc | apply pw_below_drewN | apply below_drew1) | exact HB.out)⟩
   rw [if_pos c5] at H
   have c5b0 : decide (x4_1 < (l0.length : Int)) = true := decide_eq_true c5
   clear c5
   by_cases c6 : 0 ≤ x4_1
   rotate_left
   · rw [if_neg c6] at H
     exact absurd H (by simp)
   rw [if_pos c6] at H
   have c6b0 : decide (0 ≤ x4_1) = true := decide_eq_true c6
   clear c6
   have H' := Aside0.mk H
   clear H
   have p136 : 0 ≤ (x4_1 : Int) := of_decide_eq_true (by first | (with_reducible assumption) | assumption)
   have q136 : x4_1 < (l0.length : Int) := of_decide_eq_true (by first | (with_reducible assumption) | assumption)
   obtain ⟨ad136, e136, hx136_0, hx136_1, hx136_2, hx136_3, hx136_4, hx136_5⟩ := at_T41 HR0.out x4_1 p136 q136
   cases e136
   replace hx136_0 := up_ hx136_0 HB.out
   replace hx136_1 := up_ hx136_1 HB.out
   replace hx136_2 := up_ hx136_2 HB.out
   replace hx136_3 := up_ hx136_3 HB.out
   replace hx136_4 := up_ hx136_4 HB.out
   replace hx136_5 := up_ hx136_5 HB.out
   replace p136 := eq_true p136
   replace q136 := eq_true q136
   go_wp2
   go_loopg [5] k1 (fun kq v5 w' => ∃ (x3_2 : List (S87)) (x5_2 : Int), v5 = .int .i64 x5_2 ∧ Aside0 (flyleafref15_Spread.l1 kq l0 x3_2 x4_1 x5_2 = some r) ∧ Aside0 (kq ≤ k1) ∧ Aside0 (Kd.R k87 87 w' w.heap.size (fun _ => True) v134 x3_2) ∧ Aside0 (Below w.heap.size w w'))
   case atStart => exact ⟨(x3_1), ((rd_T41 l0 x4_1).f0), (by first | rfl | (simp; done) | (simp [*]; done)), H', ⟨Nat.le_refl _⟩, ⟨by (with_reducible repeat (first | apply Kd.R_alloc | apply Kd.R_drewN | apply Kd.R_drew)); exact HO_3.out⟩, ⟨by repeat (first | (with_reducible first | exact HB.out | apply below_alloc | apply pw_below_drewN | apply below_drew1) | exact HB.out)⟩⟩
   case round =>
    clear H'
    try clear p1
    try clear q1
    try clear hx1
    try clear c2
    try clear c2b0
    try clear c2b1
    try clear p2
    try clear c4
    try clear c5
    try clear c5b0
    try clear c6
    try clear c6b0
    try clear hx136_0
    try clear hx136_1
    try clear hx136_2
    try clear hx136_3
    try clear hx136_4
    try clear hx136_5
    try clear p136
    try clear p2
    try clear q136
    obtain ⟨x3_2, x5_2, rfl, HA, HK2, HO_3, HB⟩ := hrel
    cases gk with
    | zero => exact absurd HA.out (by simp [flyleafref15_Spread.l1])
    | succ k2 =>
     have H := HA.out
     clear HA
     simp only [flyleafref15_Spread.l1] at H
     by_cases c7 : 0 ≤ x4_1
     rotate_left
     · rw [if_neg c7] at H
       exact absurd H (by simp)
     rw [if_pos c7] at H
     have c7b0 : decide (0 ≤ x4_1) = true := decide_eq_true c7
     clear c7
     by_cases c8 : x4_1 < (l0.length : Int)
     rotate_left
     · rw [if_neg c8] at H
       exact absurd H (by simp)
     rw [if_pos c8] at H
     have c8b0 : decide (x4_1 < (l0.length : Int)) = true := decide_eq_true c8
     clear c8
     by_cases c9 : x5_2 < ((rd_T41 l0 x4_1).f1)
     rotate_left
     · rw [if_neg c9] at H
       have c9b0 : decide (x5_2 < ((rd_T41 l0 x4_1).f1)) = false := decide_eq_false c9
       clear c9
       have H' := Aside0.mk H
       clear H
       have p137 : 0 ≤ (x4_1 : Int) := of_decide_eq_true (by first | (with_reducible assumption) | assumption)
       have q137 : x4_1 < (l0.length : Int) := of_decide_eq_true (by first | (with_reducible assumption) | assumption)
       obtain ⟨ad137, e137, hx137_0, hx137_1, hx137_2, hx137_3, hx137_4, hx137_5⟩ := at_T41 HR0.out x4_1 p137 q137
       obtain rfl : ad136 = ad137 := (by injection e137)
       replace hx137_0 := up_ hx137_0 HB.out
       replace hx137_1 := up_ hx137_1 HB.out
       replace hx137_2 := up_ hx137_2 HB.out
       replace hx137_3 := up_ hx137_3 HB.out
       replace hx137_4 := up_ hx137_4 HB.out
       replace hx137_5 := up_ hx137_5 HB.out
       replace p137 := eq_true p137
       replace q137 := eq_true q137
       go_wp2
       go_roundg k2
       case measure => have := HK1.out; have := HK2.out; omega
       case rel => exact ⟨(x3_2), (wrap64 (x4_1 + 1)), (by first | rfl | (simp; done) | (simp [*]; done)), H', ⟨by have := HK1.out; have := HK2.out; omega⟩, ⟨by (with_reducible repeat (first | apply Kd.R_alloc | apply Kd.R_drewN | apply Kd.R_drew)); exact HO_3.out⟩, ⟨by repeat (first | (with_reducible first | exact HB.out | apply below_alloc | apply pw_below_drewN | apply below_drew1) | exact HB.out)⟩⟩
     rw [if_pos c9] at H
     have c9b0 : decide (x5_2 < ((rd_T41 l0 x4_1).f1)) = true := decide_eq_true c9
     clear c9
     by_cases c10 : ((rd_T41 l0 x4_1).f3) = 1
     rotate_left
     · rw [if_neg c10] at H
       have c10b0 : (((rd_T41 l0 x4_1).f3) == 1) = false := beq_eq_false_iff_ne.mpr c10
       have c10b1 : (((rd_T41 l0 x4_1).f3) != 1) = true := bne_iff_ne.mpr c10
       by_cases c23 : 0 ≤ x5_2
       rotate_left
       · rw [if_neg c23] at H
         exact absurd H (by simp)
       rw [if_pos c23] at H
       have c23b0 : decide (0 ≤ x5_2) = true := decide_eq_true c23
       clear c23
       by_cases c24 : x5_2 < (x3_2.length : Int)
       rotate_left
       · rw [if_neg c24] at H
         exact absurd H (by simp)
       rw [if_pos c24] at H
       have c24b0 : decide (x5_2 < (x3_2.length : Int)) = true := decide_eq_true c24
       clear c24
       obtain ⟨y142, hy142⟩ : ∃ y_ : List (S87), y_ = (x3_2.set (x5_2 : Int).toNat (⟨(⟨x5_2, wrap64 (x5_2 + 1), (rd_T41 l0 x4_1).f2, (rd_T41 l0 x4_1).f3, (rd_T41 l0 x4_1).f4, (rd_T41 l0 x4_1).f5⟩ : S41), true⟩ : S87)) := ⟨_, rfl⟩
       replace H : (flyleafref15_Spread.l1 k2 l0 y142 x4_1 (wrap64 (x5_2 + 1))) = some r := by first | (rw [hy142]; with_reducible exact H) | (have H2_ := (Option.bind_some _ _).symm.trans H; rw [hy142]; with_reducible exact H2_) | (have H2_ := (Option.bind_some _ _).symm.trans H; with_reducible exact H2_) | with_reducible exact H | (rw [hy142]; exact H) | exact H
       have Ny142 := Aside0.mk hy142
       clear hy142
       have H' := Aside0.mk H
       clear H
       have p137 : 0 ≤ (x4_1 : Int) := of_decide_eq_true (by first | (with_reducible assumption) | assumption)
       have q137 : x4_1 < (l0.length : Int) := of_decide_eq_true (by first | (with_reducible assumption) | assumption)
       obtain ⟨ad137, e137, hx137_0, hx137_1, hx137_2, hx137_3, hx137_4, hx137_5⟩ := at_T41 HR0.out x4_1 p137 q137
       obtain rfl : ad136 = ad137 := (by injection e137)
       replace hx137_0 := up_ hx137_0 HB.out
       replace hx137_1 := up_ hx137_1 HB.out
       replace hx137_2 := up_ hx137_2 HB.out
       replace hx137_3 := up_ hx137_3 HB.out
       replace hx137_4 := up_ hx137_4 HB.out
       replace hx137_5 := up_ hx137_5 HB.out
       replace p137 := eq_true p137
       replace q137 := eq_true q137
       have p138 : 0 ≤ (x4_1 : Int) := of_decide_eq_true (by first | (with_reducible assumption) | assumption)
       have q138 : x4_1 < (l0.length : Int) := of_decide_eq_true (by first | (with_reducible assumption) | assumption)
       obtain ⟨ad138, e138, hx138_0, hx138_1, hx138_2, hx138_3, hx138_4, hx138_5⟩ := at_T41 HR0.out x4_1 p138 q138
       obtain rfl : ad136 = ad138 := (by injection e138)
       replace hx138_0 := up_ hx138_0 HB.out
       replace hx138_1 := up_ hx138_1 HB.out
       replace hx138_2 := up_ hx138_2 HB.out
       replace hx138_3 := up_ hx138_3 HB.out
       replace hx138_4 := up_ hx138_4 HB.out
       replace hx138_5 := up_ hx138_5 HB.out
       replace p138 := eq_true p138
       replace q138 := eq_true q138
       go_wp2_with (first | ((with_reducible refine gate_dst (N := 6) rfl ?_); refine box_event ?hg (N := 6) ?hd (cs := #[.int .i64 0, .int .i64 0, .int .i64 0, .int .i64 0, .int .i64 0, .int .i64 0]) (t := 41) ?hr ?_; (case hd => rfl); (case hg => rfl); (case hr => first | (go_simp; done) | (go_simp; rfl)); intro gb139 hg w26 hbox hb; have n0_ := Aside0.mk (Kd.R_below (by (with_reducible repeat (first | apply Kd.R_alloc | apply Kd.R_drewN | apply Kd.R_drew)); exact HO_3.out) hb); have n1_ := Aside0.mk (below_step (by repeat (first | (with_reducible first | exact HB.out | apply below_alloc | apply pw_below_drewN | apply below_drew1) | exact HB.out)) hb); have n2_ := Aside0.mk (hbox); have n3_ := Aside0.mk ((by rw [hg]; exact (below_size (by repeat (first | (with_reducible first | exact HB.out | apply below_alloc | apply pw_below_drewN | apply below_drew1) | exact HB.out))) : w.heap.size ≤ gb139)); have n4_ := Aside0.mk ((by rw [hg]; exact (below_size (by repeat (first | (with_reducible first | exact HB.out | apply below_alloc | apply pw_below_drewN | apply below_drew1) | exact HB.out))) : w.heap.size ≤ gb139)); clear HO_3; clear HB; have HO_3 := n0_; have HB := n1_; have BK139 := n2_; have GW139 := n3_; have GE139 := n4_; clear n0_ n1_ n2_ n3_ n4_; clear hb hbox hg; have hcz27_0 : w26.cell? ⟨gb139, 0, none⟩ = some (.int .i64 0) := (blk_cell BK139.out 0).trans rfl; have hcz27_1 : w26.cell? ⟨gb139, 1, none⟩ = some (.int .i64 0) := (blk_cell BK139.out 1).trans rfl; have hcz27_2 : w26.cell? ⟨gb139, 2, none⟩ = some (.int .i64 0) := (blk_cell BK139.out 2).trans rfl; have hcz27_3 : w26.cell? ⟨gb139, 3, none⟩ = some (.int .i64 0) := (blk_cell BK139.out 3).trans rfl; have hcz27_4 : w26.cell? ⟨gb139, 4, none⟩ = some (.int .i64 0) := (blk_cell BK139.out 4).trans rfl; have hcz27_5 : w26.cell? ⟨gb139, 5, none⟩ = some (.int .i64 0) := (blk_cell BK139.out 5).trans rfl; have hfz27_0 := blk_frozen BK139.out 0; have hfz27_1 := blk_frozen BK139.out 1; have hfz27_2 := blk_frozen BK139.out 2; have hfz27_3 := blk_frozen BK139.out 3; have hfz27_4 := blk_frozen BK139.out 4; have hfz27_5 := blk_frozen BK139.out 5) | ((with_reducible refine gate_store (t := 41) (p := 6) rfl ?_); refine store_event (t := 41) (p := 6) (v := ?vo_w28) (w1 := ((((((w26.setCell ⟨gb139, 0, none⟩ (.int .i64 ((rd_T41 l0 x4_1).f0))).setCell ⟨gb139, 1, none⟩ (.int .i64 ((rd_T41 l0 x4_1).f1))).setCell ⟨gb139, 2, none⟩ (.int .i64 ((rd_T41 l0 x4_1).f2))).setCell ⟨gb139, 3, none⟩ (.int .i64 ((rd_T41 l0 x4_1).f3))).setCell ⟨gb139, 4, none⟩ (.int .i64 ((rd_T41 l0 x4_1).f4))).setCell ⟨gb139, 5, none⟩ (.int .i64 ((rd_T41 l0 x4_1).f5)))) ?hg ?ho ?hn ?hr ?_; (case ho => rfl); (case hg => rfl); (case hn => rfl); (case hr => first | (go_simp; done) | (go_simp; rfl)); intro w28 hw; have n0_ : Aside0 (Kd.R k87 87 w28 w.heap.size (fun _ => True) v134 x3_2) := ⟨(by rw [hw]; exact (by (with_reducible repeat (first | apply Kd.R_alloc | apply Kd.R_drewN | apply Kd.R_drew)); exact Kd.R_mono (Kd.R_far (p := ⟨gb139, 5, none⟩) (Kd.R_far (p := ⟨gb139, 4, none⟩) (Kd.R_far (p := ⟨gb139, 3, none⟩) (Kd.R_far (p := ⟨gb139, 2, none⟩) (Kd.R_far (p := ⟨gb139, 1, none⟩) (Kd.R_far (p := ⟨gb139, 0, none⟩) (Kd.R_types HO_3.out BK139.out (by decide)) (fun _ hk => hk.2) (.int .i64 ((rd_T41 l0 x4_1).f0))) (fun _ hk => hk.2) (.int .i64 ((rd_T41 l0 x4_1).f1))) (fun _ hk => hk.2) (.int .i64 ((rd_T41 l0 x4_1).f2))) (fun _ hk => hk.2) (.int .i64 ((rd_T41 l0 x4_1).f3))) (fun _ hk => hk.2) (.int .i64 ((rd_T41 l0 x4_1).f4))) (fun _ hk => hk.2) (.int .i64 ((rd_T41 l0 x4_1).f5))) (fun _ hk => trivial)))⟩; have n1_ : Aside0 (w28.heap[gb139]? = some (.cells #[.int .i64 ((rd_T41 l0 x4_1).f0), .int .i64 ((rd_T41 l0 x4_1).f1), .int .i64 ((rd_T41 l0 x4_1).f2), .int .i64 ((rd_T41 l0 x4_1).f3), .int .i64 ((rd_T41 l0 x4_1).f4), .int .i64 ((rd_T41 l0 x4_1).f5)] 41 (0, 0))) := ⟨(by rw [hw]; exact (by (with_reducible repeat (first | refine blk_drewN ?_ _ | refine blk_drew ?_ | refine blk_alloc ?_ _)); refine blk_put (cs := #[.int .i64 ((rd_T41 l0 x4_1).f0), .int .i64 ((rd_T41 l0 x4_1).f1), .int .i64 ((rd_T41 l0 x4_1).f2), .int .i64 ((rd_T41 l0 x4_1).f3), .int .i64 ((rd_T41 l0 x4_1).f4), .int .i64 0]) ?_ 5 _ rfl; (with_reducible repeat (first | refine blk_drewN ?_ _ | refine blk_drew ?_ | refine blk_alloc ?_ _)); refine blk_put (cs := #[.int .i64 ((rd_T41 l0 x4_1).f0), .int .i64 ((rd_T41 l0 x4_1).f1), .int .i64 ((rd_T41 l0 x4_1).f2), .int .i64 ((rd_T41 l0 x4_1).f3), .int .i64 0, .int .i64 0]) ?_ 4 _ rfl; (with_reducible repeat (first | refine blk_drewN ?_ _ | refine blk_drew ?_ | refine blk_alloc ?_ _)); refine blk_put (cs := #[.int .i64 ((rd_T41 l0 x4_1).f0), .int .i64 ((rd_T41 l0 x4_1).f1), .int .i64 ((rd_T41 l0 x4_1).f2), .int .i64 0, .int .i64 0, .int .i64 0]) ?_ 3 _ rfl; (with_reducible repeat (first | refine blk_drewN ?_ _ | refine blk_drew ?_ | refine blk_alloc ?_ _)); refine blk_put (cs := #[.int .i64 ((rd_T41 l0 x4_1).f0), .int .i64 ((rd_T41 l0 x4_1).f1), .int .i64 0, .int .i64 0, .int .i64 0, .int .i64 0]) ?_ 2 _ rfl; (with_reducible repeat (first | refine blk_drewN ?_ _ | refine blk_drew ?_ | refine blk_alloc ?_ _)); refine blk_put (cs := #[.int .i64 ((rd_T41 l0 x4_1).f0), .int .i64 0, .int .i64 0, .int .i64 0, .int .i64 0, .int .i64 0]) ?_ 1 _ rfl; (with_reducible repeat (first | refine blk_drewN ?_ _ | refine blk_drew ?_ | refine blk_alloc ?_ _)); refine blk_put (cs := #[.int .i64 0, .int .i64 0, .int .i64 0, .int .i64 0, .int .i64 0, .int .i64 0]) ?_ 0 _ rfl; (with_reducible repeat (first | refine blk_drewN ?_ _ | refine blk_drew ?_ | refine blk_alloc ?_ _)); exact BK139.out))⟩; have n2_ : Aside0 (Below w.heap.size w w28) := ⟨(by rw [hw]; exact (by repeat (first | (with_reducible first | exact HB.out | apply below_alloc | apply pw_below_drewN | apply below_drew1 | refine below_set ?_ GE139.out) | exact HB.out)))⟩; clear hw; clear HO_3; clear BK139; clear HB; have HO_3 := n0_; have BK139 := n1_; have HB := n2_; clear n0_ n1_ n2_; have hcz29_0 : w28.cell? ⟨gb139, 0, none⟩ = some (.int .i64 ((rd_T41 l0 x4_1).f0)) := (blk_cell BK139.out 0).trans rfl; have hcz29_1 : w28.cell? ⟨gb139, 1, none⟩ = some (.int .i64 ((rd_T41 l0 x4_1).f1)) := (blk_cell BK139.out 1).trans rfl; have hcz29_2 : w28.cell? ⟨gb139, 2, none⟩ = some (.int .i64 ((rd_T41 l0 x4_1).f2)) := (blk_cell BK139.out 2).trans rfl; have hcz29_3 : w28.cell? ⟨gb139, 3, none⟩ = some (.int .i64 ((rd_T41 l0 x4_1).f3)) := (blk_cell BK139.out 3).trans rfl; have hcz29_4 : w28.cell? ⟨gb139, 4, none⟩ = some (.int .i64 ((rd_T41 l0 x4_1).f4)) := (blk_cell BK139.out 4).trans rfl; have hcz29_5 : w28.cell? ⟨gb139, 5, none⟩ = some (.int .i64 ((rd_T41 l0 x4_1).f5)) := (blk_cell BK139.out 5).trans rfl; have hfz29_0 := blk_frozen BK139.out 0; have hfz29_1 := blk_frozen BK139.out 1; have hfz29_2 := blk_frozen BK139.out 2; have hfz29_3 := blk_frozen BK139.out 3; have hfz29_4 := blk_frozen BK139.out 4; have hfz29_5 := blk_frozen BK139.out 5) | ((with_reducible refine gate_store (t := 3) (p := 33) rfl ?_); refine store_event (t := 3) (p := 33) (v := ?vo_w30) (w1 := (w28.setCell ⟨gb139, 0, none⟩ (.int .i64 x5_2))) ?hg ?ho ?hn ?hr ?_; (case ho => rfl); (case hg => rfl); (case hn => rfl); (case hr => first | (go_simp; done) | (go_simp; rfl)); intro w30 hw; have n0_ : Aside0 (Kd.R k87 87 w30 w.heap.size (fun _ => True) v134 x3_2) := ⟨(by rw [hw]; exact (by (with_reducible repeat (first | apply Kd.R_alloc | apply Kd.R_drewN | apply Kd.R_drew)); exact Kd.R_mono (Kd.R_far (p := ⟨gb139, 0, none⟩) (Kd.R_types HO_3.out BK139.out (by decide)) (fun _ hk => hk.2) (.int .i64 x5_2)) (fun _ hk => trivial)))⟩; have n1_ : Aside0 (w30.heap[gb139]? = some (.cells #[.int .i64 x5_2, .int .i64 ((rd_T41 l0 x4_1).f1), .int .i64 ((rd_T41 l0 x4_1).f2), .int .i64 ((rd_T41 l0 x4_1).f3), .int .i64 ((rd_T41 l0 x4_1).f4), .int .i64 ((rd_T41 l0 x4_1).f5)] 41 (0, 0))) := ⟨(by rw [hw]; exact (by (with_reducible repeat (first | refine blk_drewN ?_ _ | refine blk_drew ?_ | refine blk_alloc ?_ _)); refine blk_put (cs := #[.int .i64 ((rd_T41 l0 x4_1).f0), .int .i64 ((rd_T41 l0 x4_1).f1), .int .i64 ((rd_T41 l0 x4_1).f2), .int .i64 ((rd_T41 l0 x4_1).f3), .int .i64 ((rd_T41 l0 x4_1).f4), .int .i64 ((rd_T41 l0 x4_1).f5)]) ?_ 0 _ rfl; (with_reducible repeat (first | refine blk_drewN ?_ _ | refine blk_drew ?_ | refine blk_alloc ?_ _)); exact BK139.out))⟩; have n2_ : Aside0 (Below w.heap.size w w30) := ⟨(by rw [hw]; exact (by repeat (first | (with_reducible first | exact HB.out | apply below_alloc | apply pw_below_drewN | apply below_drew1 | refine below_set ?_ GE139.out) | exact HB.out)))⟩; clear hw; clear HO_3; clear BK139; clear HB; have HO_3 := n0_; have BK139 := n1_; have HB := n2_; clear n0_ n1_ n2_; have hcz31_0 : w30.cell? ⟨gb139, 0, none⟩ = some (.int .i64 x5_2) := (blk_cell BK139.out 0).trans rfl; have hcz31_1 : w30.cell? ⟨gb139, 1, none⟩ = some (.int .i64 ((rd_T41 l0 x4_1).f1)) := (blk_cell BK139.out 1).trans rfl; have hcz31_2 : w30.cell? ⟨gb139, 2, none⟩ = some (.int .i64 ((rd_T41 l0 x4_1).f2)) := (blk_cell BK139.out 2).trans rfl; have hcz31_3 : w30.cell? ⟨gb139, 3, none⟩ = some (.int .i64 ((rd_T41 l0 x4_1).f3)) := (blk_cell BK139.out 3).trans rfl; have hcz31_4 : w30.cell? ⟨gb139, 4, none⟩ = some (.int .i64 ((rd_T41 l0 x4_1).f4)) := (blk_cell BK139.out 4).trans rfl; have hcz31_5 : w30.cell? ⟨gb139, 5, none⟩ = some (.int .i64 ((rd_T41 l0 x4_1).f5)) := (blk_cell BK139.out 5).trans rfl; have hfz31_0 := blk_frozen BK139.out 0; have hfz31_1 := blk_frozen BK139.out 1; have hfz31_2 := blk_frozen BK139.out 2; have hfz31_3 := blk_frozen BK139.out 3; have hfz31_4 := blk_frozen BK139.out 4; have hfz31_5 := blk_frozen BK139.out 5) | ((with_reducible refine gate_store (t := 3) (p := 36) rfl ?_); refine store_event (t := 3) (p := 36) (v := ?vo_w32) (w1 := (w30.setCell ⟨gb139, 1, none⟩ (.int .i64 (wrap64 (x5_2 + 1))))) ?hg ?ho ?hn ?hr ?_; (case ho => rfl); (case hg => rfl); (case hn => rfl); (case hr => first | (go_simp; done) | (go_simp; rfl)); intro w32 hw; have n0_ : Aside0 (Kd.R k87 87 w32 w.heap.size (fun _ => True) v134 x3_2) := ⟨(by rw [hw]; exact (by (with_reducible repeat (first | apply Kd.R_alloc | apply Kd.R_drewN | apply Kd.R_drew)); exact Kd.R_mono (Kd.R_far (p := ⟨gb139, 1, none⟩) (Kd.R_types HO_3.out BK139.out (by decide)) (fun _ hk => hk.2) (.int .i64 (wrap64 (x5_2 + 1)))) (fun _ hk => trivial)))⟩; have n1_ : Aside0 (w32.heap[gb139]? = some (.cells #[.int .i64 x5_2, .int .i64 (wrap64 (x5_2 + 1)), .int .i64 ((rd_T41 l0 x4_1).f2), .int .i64 ((rd_T41 l0 x4_1).f3), .int .i64 ((rd_T41 l0 x4_1).f4), .int .i64 ((rd_T41 l0 x4_1).f5)] 41 (0, 0))) := ⟨(by rw [hw]; exact (by (with_reducible repeat (first | refine blk_drewN ?_ _ | refine blk_drew ?_ | refine blk_alloc ?_ _)); refine blk_put (cs := #[.int .i64 x5_2, .int .i64 ((rd_T41 l0 x4_1).f1), .int .i64 ((rd_T41 l0 x4_1).f2), .int .i64 ((rd_T41 l0 x4_1).f3), .int .i64 ((rd_T41 l0 x4_1).f4), .int .i64 ((rd_T41 l0 x4_1).f5)]) ?_ 1 _ rfl; (with_reducible repeat (first | refine blk_drewN ?_ _ | refine blk_drew ?_ | refine blk_alloc ?_ _)); exact BK139.out))⟩; have n2_ : Aside0 (Below w.heap.size w w32) := ⟨(by rw [hw]; exact (by repeat (first | (with_reducible first | exact HB.out | apply below_alloc | apply pw_below_drewN | apply below_drew1 | refine below_set ?_ GE139.out) | exact HB.out)))⟩; clear hw; clear HO_3; clear BK139; clear HB; have HO_3 := n0_; have BK139 := n1_; have HB := n2_; clear n0_ n1_ n2_; have hcz33_0 : w32.cell? ⟨gb139, 0, none⟩ = some (.int .i64 x5_2) := (blk_cell BK139.out 0).trans rfl; have hcz33_1 : w32.cell? ⟨gb139, 1, none⟩ = some (.int .i64 (wrap64 (x5_2 + 1))) := (blk_cell BK139.out 1).trans rfl; have hcz33_2 : w32.cell? ⟨gb139, 2, none⟩ = some (.int .i64 ((rd_T41 l0 x4_1).f2)) := (blk_cell BK139.out 2).trans rfl; have hcz33_3 : w32.cell? ⟨gb139, 3, none⟩ = some (.int .i64 ((rd_T41 l0 x4_1).f3)) := (blk_cell BK139.out 3).trans rfl; have hcz33_4 : w32.cell? ⟨gb139, 4, none⟩ = some (.int .i64 ((rd_T41 l0 x4_1).f4)) := (blk_cell BK139.out 4).trans rfl; have hcz33_5 : w32.cell? ⟨gb139, 5, none⟩ = some (.int .i64 ((rd_T41 l0 x4_1).f5)) := (blk_cell BK139.out 5).trans rfl; have hfz33_0 := blk_frozen BK139.out 0; have hfz33_1 := blk_frozen BK139.out 1; have hfz33_2 := blk_frozen BK139.out 2; have hfz33_3 := blk_frozen BK139.out 3; have hfz33_4 := blk_frozen BK139.out 4; have hfz33_5 := blk_frozen BK139.out 5; have p25 : 0 ≤ (x5_2 : Int) := of_decide_eq_true (by first | (with_reducible assumption) | assumption); have q25 : (x5_2 : Int) < ((x3_2.length : Int) : Int) := of_decide_eq_true (by first | (with_reducible assumption) | assumption); obtain ⟨go25, co25, eo25, gb25, gl25, cl25, HG25⟩ := Kd.R_form HO_3.out (by omega); (first | cases eo25 | (injection eo25 with ea_ en_ ec_; (first | subst ea_ | (injection ea_ with ea_; subst ea_)); subst ec_; clear en_)); have GB25 := Aside0.mk gb25; have GG25 := Aside0.mk HG25; clear gb25 gl25 HG25; obtain ⟨ce25, hcl25, hM25, hcc25, hfr25⟩ := Kd.R_elem HO_3.out z87 (x5_2 : Int) p25 q25; obtain rfl := k87_openM hM25; have hx25_0 : w32.cell? ⟨go25, (x5_2 : Int).toNat * 7, none⟩ = some (.int .i64 ((rd_T87 x3_2 x5_2).f0.f0)) := hcc25 0 _ rfl; have hx25_1 : w32.cell? ⟨go25, (x5_2 : Int).toNat * 7 + 1, none⟩ = some (.int .i64 ((rd_T87 x3_2 x5_2).f0.f1)) := hcc25 1 _ rfl; have hx25_2 : w32.cell? ⟨go25, (x5_2 : Int).toNat * 7 + 2, none⟩ = some (.int .i64 ((rd_T87 x3_2 x5_2).f0.f2)) := hcc25 2 _ rfl; have hx25_3 : w32.cell? ⟨go25, (x5_2 : Int).toNat * 7 + 3, none⟩ = some (.int .i64 ((rd_T87 x3_2 x5_2).f0.f3)) := hcc25 3 _ rfl; have hx25_4 : w32.cell? ⟨go25, (x5_2 : Int).toNat * 7 + 4, none⟩ = some (.int .i64 ((rd_T87 x3_2 x5_2).f0.f4)) := hcc25 4 _ rfl; have hx25_5 : w32.cell? ⟨go25, (x5_2 : Int).toNat * 7 + 5, none⟩ = some (.int .i64 ((rd_T87 x3_2 x5_2).f0.f5)) := hcc25 5 _ rfl; have hx25_6 : w32.cell? ⟨go25, (x5_2 : Int).toNat * 7 + 6, none⟩ = some (.bool ((rd_T87 x3_2 x5_2).f1)) := hcc25 6 _ rfl; have hf25_0 : w32.frozen? ⟨go25, (x5_2 : Int).toNat * 7, none⟩ = false := hfr25 0; have hf25_1 : w32.frozen? ⟨go25, (x5_2 : Int).toNat * 7 + 1, none⟩ = false := hfr25 1; have hf25_2 : w32.frozen? ⟨go25, (x5_2 : Int).toNat * 7 + 2, none⟩ = false := hfr25 2; have hf25_3 : w32.frozen? ⟨go25, (x5_2 : Int).toNat * 7 + 3, none⟩ = false := hfr25 3; have hf25_4 : w32.frozen? ⟨go25, (x5_2 : Int).toNat * 7 + 4, none⟩ = false := hfr25 4; have hf25_5 : w32.frozen? ⟨go25, (x5_2 : Int).toNat * 7 + 5, none⟩ = false := hfr25 5; have hf25_6 : w32.frozen? ⟨go25, (x5_2 : Int).toNat * 7 + 6, none⟩ = false := hfr25 6; clear hcl25 hcc25 hfr25 hM25; replace p25 := eq_true p25; replace q25 := eq_true q25; have HX34 := Aside0.mk (show Kd.R k87 87 w32 w.heap.size (fun _ => True) (.slice (some ⟨go25, 0, none⟩) x3_2.length co25) x3_2 from (by (with_reducible repeat (first | apply Kd.R_alloc | apply Kd.R_drewN | apply Kd.R_drew)); exact HO_3.out)); obtain ⟨ce34, hcl34, hM34, hcc34, hfr34⟩ := Kd.R_elem HX34.out z87 (x5_2 : Int) (of_decide_eq_true (by first | (with_reducible assumption) | assumption)) (by have h_ : (x5_2 : Int) < ((x3_2.length : Int) : Int) := of_decide_eq_true (by first | (with_reducible assumption) | assumption); first | exact h_ | (have e_ := (Kd.R_reads' HO_3.out).1; omega) | simpa using h_); obtain rfl := k87_openM hM34; have HP34 := Kd.R_seg HX34.out (x5_2 : Int) (of_decide_eq_true (by first | (with_reducible assumption) | assumption)) (by have h_ : (x5_2 : Int) < ((x3_2.length : Int) : Int) := of_decide_eq_true (by first | (with_reducible assumption) | assumption); first | exact h_ | (have e_ := (Kd.R_reads' HO_3.out).1; omega) | simpa using h_) (seg := [.int .i64 x5_2, .int .i64 (wrap64 (x5_2 + 1)), .int .i64 ((rd_T41 l0 x4_1).f2), .int .i64 ((rd_T41 l0 x4_1).f3), .int .i64 ((rd_T41 l0 x4_1).f4), .int .i64 ((rd_T41 l0 x4_1).f5), .bool true]) (j := 0) hcl34 hcc34 (show 7 ≤ 7 from by decide) (x' := (⟨(⟨x5_2, wrap64 (x5_2 + 1), (rd_T41 l0 x4_1).f2, (rd_T41 l0 x4_1).f3, (rd_T41 l0 x4_1).f4, (rd_T41 l0 x4_1).f5⟩ : S41), true⟩ : S87)) (k87_mkM _ _ _ (⟨(⟨x5_2, wrap64 (x5_2 + 1), (rd_T41 l0 x4_1).f2, (rd_T41 l0 x4_1).f3, (rd_T41 l0 x4_1).f4, (rd_T41 l0 x4_1).f5⟩ : S41), true⟩ : S87) ) (fun _ hk => hk); have hx34_0 := hcc34 0 _ rfl; (try simp only [show (k87).sz = 7 from rfl, Nat.mul_one, Nat.add_zero] at hx34_0); have hf34_0 := hfr34 0; (try simp only [show (k87).sz = 7 from rfl, Nat.mul_one, Nat.add_zero] at hf34_0); have hx34_1 := hcc34 1 _ rfl; (try simp only [show (k87).sz = 7 from rfl, Nat.mul_one, Nat.add_zero] at hx34_1); have hf34_1 := hfr34 1; (try simp only [show (k87).sz = 7 from rfl, Nat.mul_one, Nat.add_zero] at hf34_1); have hx34_2 := hcc34 2 _ rfl; (try simp only [show (k87).sz = 7 from rfl, Nat.mul_one, Nat.add_zero] at hx34_2); have hf34_2 := hfr34 2; (try simp only [show (k87).sz = 7 from rfl, Nat.mul_one, Nat.add_zero] at hf34_2); have hx34_3 := hcc34 3 _ rfl; (try simp only [show (k87).sz = 7 from rfl, Nat.mul_one, Nat.add_zero] at hx34_3); have hf34_3 := hfr34 3; (try simp only [show (k87).sz = 7 from rfl, Nat.mul_one, Nat.add_zero] at hf34_3); have hx34_4 := hcc34 4 _ rfl; (try simp only [show (k87).sz = 7 from rfl, Nat.mul_one, Nat.add_zero] at hx34_4); have hf34_4 := hfr34 4; (try simp only [show (k87).sz = 7 from rfl, Nat.mul_one, Nat.add_zero] at hf34_4); have hx34_5 := hcc34 5 _ rfl; (try simp only [show (k87).sz = 7 from rfl, Nat.mul_one, Nat.add_zero] at hx34_5); have hf34_5 := hfr34 5; (try simp only [show (k87).sz = 7 from rfl, Nat.mul_one, Nat.add_zero] at hf34_5); have hx34_6 := hcc34 6 _ rfl; (try simp only [show (k87).sz = 7 from rfl, Nat.mul_one, Nat.add_zero] at hx34_6); have hf34_6 := hfr34 6; (try simp only [show (k87).sz = 7 from rfl, Nat.mul_one, Nat.add_zero] at hf34_6); clear hcl34 hcc34 hfr34 hM34) | ((with_reducible refine gate_store (t := 87) (p := 55) rfl ?_); refine store_event (t := 87) (p := 55) (v := ?vo_w35) (w1 := (((((((w32.setCell ⟨go25, (x5_2 : Int).toNat * 7, none⟩ (.int .i64 x5_2)).setCell ⟨go25, (x5_2 : Int).toNat * 7 + 1, none⟩ (.int .i64 (wrap64 (x5_2 + 1)))).setCell ⟨go25, (x5_2 : Int).toNat * 7 + 2, none⟩ (.int .i64 ((rd_T41 l0 x4_1).f2))).setCell ⟨go25, (x5_2 : Int).toNat * 7 + 3, none⟩ (.int .i64 ((rd_T41 l0 x4_1).f3))).setCell ⟨go25, (x5_2 : Int).toNat * 7 + 4, none⟩ (.int .i64 ((rd_T41 l0 x4_1).f4))).setCell ⟨go25, (x5_2 : Int).toNat * 7 + 5, none⟩ (.int .i64 ((rd_T41 l0 x4_1).f5))).setCell ⟨go25, (x5_2 : Int).toNat * 7 + 6, none⟩ (.bool true))) ?hg ?ho ?hn ?hr ?_; (case ho => rfl); (case hg => rfl); (case hn => rfl); (case hr => first | (go_simp; done) | (go_simp; rfl)); intro w35 hw; have hg : w32.grownBy w35 (some go25) := (by rw [hw]; exact HP34.2); have hp_ : Kd.R k87 87 w35 w.heap.size (fun _ => True) (.slice (some ⟨go25, 0, none⟩) x3_2.length co25) y142 := (by rw [hw, Ny142.out]; exact HP34.1); clear HP34; have n0_ := Aside0.mk (hp_); have n1_ := Aside0.mk (blk_grown (g := gb139) (o := .cells #[.int .i64 x5_2, .int .i64 (wrap64 (x5_2 + 1)), .int .i64 ((rd_T41 l0 x4_1).f2), .int .i64 ((rd_T41 l0 x4_1).f3), .int .i64 ((rd_T41 l0 x4_1).f4), .int .i64 ((rd_T41 l0 x4_1).f5)] 41 (0, 0)) (by (with_reducible repeat (first | refine blk_drewN ?_ _ | refine blk_drew ?_ | refine blk_alloc ?_ _)); exact BK139.out) hg (Kd.R_ne HO_3.out BK139.out (by decide))); have n2_ := Aside0.mk ((by rw [hw]; exact below_set (below_set (below_set (below_set (below_set (below_set (below_set (HB.out) GB25.out) GB25.out) GB25.out) GB25.out) GB25.out) GB25.out) GB25.out : Below w.heap.size w w35)); clear HO_3; clear BK139; clear HB; have HO_3 := n0_; have BK139 := n1_; have HB := n2_; clear n0_ n1_ n2_; clear hg hw hp_))
       go_roundg k2
       case measure => have := HK1.out; have := HK2.out; omega
       case rel => exact ⟨(y142), (wrap64 (x5_2 + 1)), (by first | rfl | (simp; done) | (simp [*]; done)), H', ⟨by have := HK1.out; have := HK2.out; omega⟩, ⟨by (with_reducible repeat (first | apply Kd.R_alloc | apply Kd.R_drewN | apply Kd.R_drew)); exact HO_3.out⟩, ⟨by repeat (first | (with_reducible first | exact HB.out | apply below_alloc | apply pw_below_drewN | apply below_drew1 | refine below_set ?_ GE139.out) | exact HB.out)⟩⟩
     rw [if_pos c10] at H
     have c10b0 : (((rd_T41 l0 x4_1).f3) == 1) = true := beq_iff_eq.mpr c10
     have c10b1 : (((rd_T41 l0 x4_1).f3) != 1) = false := bne_eq_false_iff_eq.mpr c10
     clear c10
     by_cases c11 : 0 ≤ x5_2
     rotate_left
     · rw [if_neg c11] at H
       exact absurd H (by simp)
     rw [if_pos c11] at H
     have c11b0 : decide (0 ≤ x5_2) = true := decide_eq_true c11
     clear c11
     by_cases c12 : x5_2 < (x3_2.length : Int)
     rotate_left
     · rw [if_neg c12] at H
       exact absurd H (by simp)
     rw [if_pos c12] at H
     have c12b0 : decide (x5_2 < (x3_2.length : Int)) = true := decide_eq_true c12
     clear c12
     obtain ⟨y141, hy141⟩ : ∃ y_ : List (S87), y_ = (x3_2.set (x5_2 : Int).toNat (⟨(⟨x5_2, wrap64 (x5_2 + 1), (rd_T41 l0 x4_1).f2, (rd_T41 l0 x4_1).f3, (rd_T41 l0 x4_1).f4, wrap64 ((wrap64 (((rd_T41 l0 x4_1).f5) + x5_2)) - ((rd_T41 l0 x4_1).f0))⟩ : S41), true⟩ : S87)) := ⟨_, rfl⟩
     replace H : (flyleafref15_Spread.l1 k2 l0 y141 x4_1 (wrap64 (x5_2 + 1))) = some r := by first | (rw [hy141]; with_reducible exact H) | (have H2_ := (Option.bind_some _ _).symm.trans H; rw [hy141]; with_reducible exact H2_) | (have H2_ := (Option.bind_some _ _).symm.trans H; with_reducible exact H2_) | with_reducible exact H | (rw [hy141]; exact H) | exact H
     have Ny141 := Aside0.mk hy141
     clear hy141
     have H' := Aside0.mk H
     clear H
     have p137 : 0 ≤ (x4_1 : Int) := of_decide_eq_true (by first | (with_reducible assumption) | assumption)
     have q137 : x4_1 < (l0.length : Int) := of_decide_eq_true (by first | (with_reducible assumption) | assumption)
     obtain ⟨ad137, e137, hx137_0, hx137_1, hx137_2, hx137_3, hx137_4, hx137_5⟩ := at_T41 HR0.out x4_1 p137 q137
     obtain rfl : ad136 = ad137 := (by injection e137)
     replace hx137_0 := up_ hx137_0 HB.out
     replace hx137_1 := up_ hx137_1 HB.out
     replace hx137_2 := up_ hx137_2 HB.out
     replace hx137_3 := up_ hx137_3 HB.out
     replace hx137_4 := up_ hx137_4 HB.out
     replace hx137_5 := up_ hx137_5 HB.out
     replace p137 := eq_true p137
     replace q137 := eq_true q137
     have p138 : 0 ≤ (x4_1 : Int) := of_decide_eq_true (by first | (with_reducible assumption) | assumption)
     have q138 : x4_1 < (l0.length : Int) := of_decide_eq_true (by first | (with_reducible assumption) | assumption)
     obtain ⟨ad138, e138, hx138_0, hx138_1, hx138_2, hx138_3, hx138_4, hx138_5⟩ := at_T41 HR0.out x4_1 p138 q138
     obtain rfl : ad136 = ad138 := (by injection e138)
     replace hx138_0 := up_ hx138_0 HB.out
     replace hx138_1 := up_ hx138_1 HB.out
     replace hx138_2 := up_ hx138_2 HB.out
     replace hx138_3 := up_ hx138_3 HB.out
     replace hx138_4 := up_ hx138_4 HB.out
     replace hx138_5 := up_ hx138_5 HB.out
     replace p138 := eq_true p138
     replace q138 := eq_true q138
     try go_wp2_with (first | ((with_reducible refine gate_dst (N := 6) rfl ?_); refine box_event ?hg (N := 6) ?hd (cs := #[.int .i64 0, .int .i64 0, .int .i64 0, .int .i64 0, .int .i64 0, .int .i64 0]) (t := 41) ?hr ?_; (case hd => rfl); (case hg => rfl); (case hr => first | (go_simp; done) | (go_simp; rfl)); intro gb139 hg w14 hbox hb; have n0_ := Aside0.mk (Kd.R_below (by (with_reducible repeat (first | apply Kd.R_alloc | apply Kd.R_drewN | apply Kd.R_drew)); exact HO_3.out) hb); have n1_ := Aside0.mk (below_step (by repeat (first | (with_reducible first | exact HB.out | apply below_alloc | apply pw_below_drewN | apply below_drew1) | exact HB.out)) hb); have n2_ := Aside0.mk (hbox); have n3_ := Aside0.mk ((by rw [hg]; exact (below_size (by repeat (first | (with_reducible first | exact HB.out | apply below_alloc | apply pw_below_drewN | apply below_drew1) | exact HB.out))) : w.heap.size ≤ gb139)); have n4_ := Aside0.mk ((by rw [hg]; exact (below_size (by repeat (first | (with_reducible first | exact HB.out | apply below_alloc | apply pw_below_drewN | apply below_drew1) | exact HB.out))) : w.heap.size ≤ gb139)); clear HO_3; clear HB; have HO_3 := n0_; have HB := n1_; have BK139 := n2_; have GW139 := n3_; have GE139 := n4_; clear n0_ n1_ n2_ n3_ n4_; clear hb hbox hg; have hcz15_0 : w14.cell? ⟨gb139, 0, none⟩ = some (.int .i64 0) := (blk_cell BK139.out 0).trans rfl; have hcz15_1 : w14.cell? ⟨gb139, 1, none⟩ = some (.int .i64 0) := (blk_cell BK139.out 1).trans rfl; have hcz15_2 : w14.cell? ⟨gb139, 2, none⟩ = some (.int .i64 0) := (blk_cell BK139.out 2).trans rfl; have hcz15_3 : w14.cell? ⟨gb139, 3, none⟩ = some (.int .i64 0) := (blk_cell BK139.out 3).trans rfl; have hcz15_4 : w14.cell? ⟨gb139, 4, none⟩ = some (.int .i64 0) := (blk_cell BK139.out 4).trans rfl; have hcz15_5 : w14.cell? ⟨gb139, 5, none⟩ = some (.int .i64 0) := (blk_cell BK139.out 5).trans rfl; have hfz15_0 := blk_frozen BK139.out 0; have hfz15_1 := blk_frozen BK139.out 1; have hfz15_2 := blk_frozen BK139.out 2; have hfz15_3 := blk_frozen BK139.out 3; have hfz15_4 := blk_frozen BK139.out 4; have hfz15_5 := blk_frozen BK139.out 5))
     have n0_ : Aside0 (Kd.R k87 87 ((((((((w14.setCell ⟨gb139, 0, none⟩ (.int .i64 ((rd_T41 l0 x4_1).f0))).setCell ⟨gb139, 1, none⟩ (.int .i64 ((rd_T41 l0 x4_1).f1))).setCell ⟨gb139, 2, none⟩ (.int .i64 ((rd_T41 l0 x4_1).f2))).setCell ⟨gb139, 3, none⟩ (.int .i64 ((rd_T41 l0 x4_1).f3))).setCell ⟨gb139, 4, none⟩ (.int .i64 ((rd_T41 l0 x4_1).f4))).setCell ⟨gb139, 5, none⟩ (.int .i64 ((rd_T41 l0 x4_1).f5))).setCell ⟨gb139, 0, none⟩ (.int .i64 x5_2)).setCell ⟨gb139, 1, none⟩ (.int .i64 (wrap64 (x5_2 + 1)))) w.heap.size (fun _ => True) v134 x3_2) := ⟨by (with_reducible repeat (first | apply Kd.R_alloc | apply Kd.R_drewN | apply Kd.R_drew)); exact Kd.R_mono (Kd.R_far (p := ⟨gb139, 1, none⟩) (Kd.R_far (p := ⟨gb139, 0, none⟩) (Kd.R_far (p := ⟨gb139, 5, none⟩) (Kd.R_far (p := ⟨gb139, 4, none⟩) (Kd.R_far (p := ⟨gb139, 3, none⟩) (Kd.R_far (p := ⟨gb139, 2, none⟩) (Kd.R_far (p := ⟨gb139, 1, none⟩) (Kd.R_far (p := ⟨gb139, 0, none⟩) (Kd.R_types HO_3.out BK139.out (by decide)) (fun _ hk => hk.2) (.int .i64 ((rd_T41 l0 x4_1).f0))) (fun _ hk => hk.2) (.int .i64 ((rd_T41 l0 x4_1).f1))) (fun _ hk => hk.2) (.int .i64 ((rd_T41 l0 x4_1).f2))) (fun _ hk => hk.2) (.int .i64 ((rd_T41 l0 x4_1).f3))) (fun _ hk => hk.2) (.int .i64 ((rd_T41 l0 x4_1).f4))) (fun _ hk => hk.2) (.int .i64 ((rd_T41 l0 x4_1).f5))) (fun _ hk => hk.2) (.int .i64 x5_2)) (fun _ hk => hk.2) (.int .i64 (wrap64 (x5_2 + 1)))) (fun _ hk => trivial)⟩
     have n1_ : Aside0 (((((((((w14.setCell ⟨gb139, 0, none⟩ (.int .i64 ((rd_T41 l0 x4_1).f0))).setCell ⟨gb139, 1, none⟩ (.int .i64 ((rd_T41 l0 x4_1).f1))).setCell ⟨gb139, 2, none⟩ (.int .i64 ((rd_T41 l0 x4_1).f2))).setCell ⟨gb139, 3, none⟩ (.int .i64 ((rd_T41 l0 x4_1).f3))).setCell ⟨gb139, 4, none⟩ (.int .i64 ((rd_T41 l0 x4_1).f4))).setCell ⟨gb139, 5, none⟩ (.int .i64 ((rd_T41 l0 x4_1).f5))).setCell ⟨gb139, 0, none⟩ (.int .i64 x5_2)).setCell ⟨gb139, 1, none⟩ (.int .i64 (wrap64 (x5_2 + 1)))).heap[gb139]? = some (.cells #[.int .i64 x5_2, .int .i64 (wrap64 (x5_2 + 1)), .int .i64 ((rd_T41 l0 x4_1).f2), .int .i64 ((rd_T41 l0 x4_1).f3), .int .i64 ((rd_T41 l0 x4_1).f4), .int .i64 ((rd_T41 l0 x4_1).f5)] 41 (0, 0))) := ⟨by (with_reducible repeat (first | refine blk_drewN ?_ _ | refine blk_drew ?_ | refine blk_alloc ?_ _)); refine blk_put (cs := #[.int .i64 x5_2, .int .i64 ((rd_T41 l0 x4_1).f1), .int .i64 ((rd_T41 l0 x4_1).f2), .int .i64 ((rd_T41 l0 x4_1).f3), .int .i64 ((rd_T41 l0 x4_1).f4), .int .i64 ((rd_T41 l0 x4_1).f5)]) ?_ 1 _ rfl; (with_reducible repeat (first | refine blk_drewN ?_ _ | refine blk_drew ?_ | refine blk_alloc ?_ _)); refine blk_put (cs := #[.int .i64 ((rd_T41 l0 x4_1).f0), .int .i64 ((rd_T41 l0 x4_1).f1), .int .i64 ((rd_T41 l0 x4_1).f2), .int .i64 ((rd_T41 l0 x4_1).f3), .int .i64 ((rd_T41 l0 x4_1).f4), .int .i64 ((rd_T41 l0 x4_1).f5)]) ?_ 0 _ rfl; (with_reducible repeat (first | refine blk_drewN ?_ _ | refine blk_drew ?_ | refine blk_alloc ?_ _)); refine blk_put (cs := #[.int .i64 ((rd_T41 l0 x4_1).f0), .int .i64 ((rd_T41 l0 x4_1).f1), .int .i64 ((rd_T41 l0 x4_1).f2), .int .i64 ((rd_T41 l0 x4_1).f3), .int .i64 ((rd_T41 l0 x4_1).f4), .int .i64 0]) ?_ 5 _ rfl; (with_reducible repeat (first | refine blk_drewN ?_ _ | refine blk_drew ?_ | refine blk_alloc ?_ _)); refine blk_put (cs := #[.int .i64 ((rd_T41 l0 x4_1).f0), .int .i64 ((rd_T41 l0 x4_1).f1), .int .i64 ((rd_T41 l0 x4_1).f2), .int .i64 ((rd_T41 l0 x4_1).f3), .int .i64 0, .int .i64 0]) ?_ 4 _ rfl; (with_reducible repeat (first | refine blk_drewN ?_ _ | refine blk_drew ?_ | refine blk_alloc ?_ _)); refine blk_put (cs := #[.int .i64 ((rd_T41 l0 x4_1).f0), .int .i64 ((rd_T41 l0 x4_1).f1), .int .i64 ((rd_T41 l0 x4_1).f2), .int .i64 0, .int .i64 0, .int .i64 0]) ?_ 3 _ rfl; (with_reducible repeat (first | refine blk_drewN ?_ _ | refine blk_drew ?_ | refine blk_alloc ?_ _)); refine blk_put (cs := #[.int .i64 ((rd_T41 l0 x4_1).f0), .int .i64 ((rd_T41 l0 x4_1).f1), .int .i64 0, .int .i64 0, .int .i64 0, .int .i64 0]) ?_ 2 _ rfl; (with_reducible repeat (first | refine blk_drewN ?_ _ | refine blk_drew ?_ | refine blk_alloc ?_ _)); refine blk_put (cs := #[.int .i64 ((rd_T41 l0 x4_1).f0), .int .i64 0, .int .i64 0, .int .i64 0, .int .i64 0, .int .i64 0]) ?_ 1 _ rfl; (with_reducible repeat (first | refine blk_drewN ?_ _ | refine blk_drew ?_ | refine blk_alloc ?_ _)); refine blk_put (cs := #[.int .i64 0, .int .i64 0, .int .i64 0, .int .i64 0, .int .i64 0, .int .i64 0]) ?_ 0 _ rfl; (with_reducible repeat (first | refine blk_drewN ?_ _ | refine blk_drew ?_ | refine blk_alloc ?_ _)); exact BK139.out⟩
     have n2_ : Aside0 (Below w.heap.size w ((((((((w14.setCell ⟨gb139, 0, none⟩ (.int .i64 ((rd_T41 l0 x4_1).f0))).setCell ⟨gb139, 1, none⟩ (.int .i64 ((rd_T41 l0 x4_1).f1))).setCell ⟨gb139, 2, none⟩ (.int .i64 ((rd_T41 l0 x4_1).f2))).setCell ⟨gb139, 3, none⟩ (.int .i64 ((rd_T41 l0 x4_1).f3))).setCell ⟨gb139, 4, none⟩ (.int .i64 ((rd_T41 l0 x4_1).f4))).setCell ⟨gb139, 5, none⟩ (.int .i64 ((rd_T41 l0 x4_1).f5))).setCell ⟨gb139, 0, none⟩ (.int .i64 x5_2)).setCell ⟨gb139, 1, none⟩ (.int .i64 (wrap64 (x5_2 + 1))))) := ⟨by repeat (first | (with_reducible first | exact HB.out | apply below_alloc | apply pw_below_drewN | apply below_drew1 | refine below_set ?_ GE139.out) | exact HB.out)⟩
     (try clear HO_3)
     (try clear BK139)
     (try clear HB)
     generalize ((((((((w14.setCell ⟨gb139, 0, none⟩ (.int .i64 ((rd_T41 l0 x4_1).f0))).setCell ⟨gb139, 1, none⟩ (.int .i64 ((rd_T41 l0 x4_1).f1))).setCell ⟨gb139, 2, none⟩ (.int .i64 ((rd_T41 l0 x4_1).f2))).setCell ⟨gb139, 3, none⟩ (.int .i64 ((rd_T41 l0 x4_1).f3))).setCell ⟨gb139, 4, none⟩ (.int .i64 ((rd_T41 l0 x4_1).f4))).setCell ⟨gb139, 5, none⟩ (.int .i64 ((rd_T41 l0 x4_1).f5))).setCell ⟨gb139, 0, none⟩ (.int .i64 x5_2)).setCell ⟨gb139, 1, none⟩ (.int .i64 (wrap64 (x5_2 + 1)))) = w16 at n0_ n1_ n2_ ⊢
     have HO_3 := n0_
     have BK139 := n1_
     have HB := n2_
     clear n0_ n1_ n2_
     have n0_ := Aside0.mk (Kd.R_drew HO_3.out)
     have n1_ := Aside0.mk (blk_drew BK139.out)
     have n2_ := Aside0.mk (below_drew1 HB.out)
     clear HO_3
     clear BK139
     clear HB
     have HO_3 := n0_
     have BK139 := n1_
     have HB := n2_
     clear n0_ n1_ n2_
     have p140 : 0 ≤ (x4_1 : Int) := of_decide_eq_true (by first | (with_reducible assumption) | assumption)
     have q140 : x4_1 < (l0.length : Int) := of_decide_eq_true (by first | (with_reducible assumption) | assumption)
     obtain ⟨ad140, e140, hx140_0, hx140_1, hx140_2, hx140_3, hx140_4, hx140_5⟩ := at_T41 HR0.out x4_1 p140 q140
     have hw140_5 := hx140_5
     have hw140_4 := hx140_4
     have hw140_3 := hx140_3
     have hw140_2 := hx140_2
     have hw140_1 := hx140_1
     have hw140_0 := hx140_0
     obtain rfl : ad136 = ad140 := (by injection e140)
     replace hx140_0 := up_ hx140_0 HB.out
     replace hx140_1 := up_ hx140_1 HB.out
     replace hx140_2 := up_ hx140_2 HB.out
     replace hx140_3 := up_ hx140_3 HB.out
     replace hx140_4 := up_ hx140_4 HB.out
     replace hx140_5 := up_ hx140_5 HB.out
     replace p140 := eq_true p140
     replace q140 := eq_true q140
     refine start_ (n := 12) (S := fun w' => w'.cell? ⟨gb139, 0, none⟩ = some (.int .i64 x5_2) ∧ w'.cell? ⟨gb139, 1, none⟩ = some (.int .i64 (wrap64 (x5_2 + 1))) ∧ w'.cell? ⟨gb139, 2, none⟩ = some (.int .i64 ((rd_T41 l0 x4_1).f2)) ∧ w'.cell? ⟨gb139, 3, none⟩ = some (.int .i64 ((rd_T41 l0 x4_1).f3)) ∧ w'.cell? ⟨gb139, 4, none⟩ = some (.int .i64 ((rd_T41 l0 x4_1).f4)) ∧ w'.cell? ⟨gb139, 5, none⟩ = some (.int .i64 ((rd_T41 l0 x4_1).f5)) ∧ w'.cell? (ad136.add ((x4_1).toNat * 6)) = some (.int .i64 ((rd_T41 l0 x4_1).f0)) ∧ w'.cell? ⟨(ad136.add ((x4_1).toNat * 6)).block, (ad136.add ((x4_1).toNat * 6)).off + 1, none⟩ = some (.int .i64 ((rd_T41 l0 x4_1).f1)) ∧ w'.cell? ⟨(ad136.add ((x4_1).toNat * 6)).block, (ad136.add ((x4_1).toNat * 6)).off + 2, none⟩ = some (.int .i64 ((rd_T41 l0 x4_1).f2)) ∧ w'.cell? ⟨(ad136.add ((x4_1).toNat * 6)).block, (ad136.add ((x4_1).toNat * 6)).off + 3, none⟩ = some (.int .i64 ((rd_T41 l0 x4_1).f3)) ∧ w'.cell? ⟨(ad136.add ((x4_1).toNat * 6)).block, (ad136.add ((x4_1).toNat * 6)).off + 4, none⟩ = some (.int .i64 ((rd_T41 l0 x4_1).f4)) ∧ w'.cell? ⟨(ad136.add ((x4_1).toNat * 6)).block, (ad136.add ((x4_1).toNat * 6)).off + 5, none⟩ = some (.int .i64 ((rd_T41 l0 x4_1).f5))) (ds := [11]) #[f_,f_,f_,f_,f_,f_,f_,f_,f_,f_,f_,f_] (by kernel_rfl) rfl rfl ⟨(blk_cell BK139.out 0).trans rfl, (blk_cell BK139.out 1).trans rfl, (blk_cell BK139.out 2).trans rfl, (blk_cell BK139.out 3).trans rfl, (blk_cell BK139.out 4).trans rfl, (blk_cell BK139.out 5).trans rfl, ((HB.out.cell (World.block_lt_of_cell? w _ hw140_0)).trans hw140_0), ((HB.out.cell (World.block_lt_of_cell? w _ hw140_1)).trans hw140_1), ((HB.out.cell (World.block_lt_of_cell? w _ hw140_2)).trans hw140_2), ((HB.out.cell (World.block_lt_of_cell? w _ hw140_3)).trans hw140_3), ((HB.out.cell (World.block_lt_of_cell? w _ hw140_4)).trans hw140_4), ((HB.out.cell (World.block_lt_of_cell? w _ hw140_5)).trans hw140_5)⟩ (fun hHeld => ?_); refine with_tabW flyleafref15_Spread.tab12 flyleafref15_Spread.bits12 (fun HT_ HW_ => ?_)
     generalize w16.drew = w17 at HO_3 BK139 HB hx140_0 hx140_1 hx140_2 hx140_3 hx140_4 hx140_5 hHeld ⊢
     refine pure_ (i := 0) (N := some 40) (v := ?_) (a' := ?_) #[t_,f_,f_,f_,f_,f_,f_,f_,f_,f_,f_,f_] rfl rfl (any_of HT_.out (by kernel_rfl)) (fun _ _ _ h => h) (Or.inl ⟨by rfl, ?_⟩) ?_ ?_; rotate_left; intro w'; go_simp; with_reducible rfl; rotate_left; simp only [Act.put, sA_, sB_, sC_, i64_w, i32_w]; rfl
     refine pure_ (i := 2) (N := some 42) (v := ?_) (a' := ?_) #[t_,f_,t_,f_,f_,f_,f_,f_,f_,f_,f_,f_] rfl rfl (any_of HT_.out (by kernel_rfl)) (fun _ _ _ h => h) (Or.inl ⟨by rfl, ?_⟩) ?_ ?_; rotate_left; intro w'; go_simp; with_reducible rfl; rotate_left; simp only [Act.put, sA_, sB_, sC_, i64_w, i32_w]; rfl
     refine pure_ (i := 4) (N := some 44) (v := ?_) (a' := ?_) #[t_,f_,t_,f_,t_,f_,f_,f_,f_,f_,f_,f_] rfl rfl (any_of HT_.out (by kernel_rfl)) (fun _ _ _ h => h) (Or.inl ⟨by rfl, ?_⟩) ?_ ?_; rotate_left; intro w'; go_simp; with_reducible rfl; rotate_left; simp only [Act.put, sA_, sB_, sC_, i64_w, i32_w]; rfl
     refine pure_ (i := 5) (N := some 45) (v := ?_) (a' := ?_) #[t_,f_,t_,f_,t_,t_,f_,f_,f_,f_,f_,f_] rfl rfl (any_of HT_.out (by kernel_rfl)) (fun _ _ _ h => h) (Or.inl ⟨by rfl, ?_⟩) ?_ ?_; rotate_left; intro w'; go_simp; with_reducible rfl; rotate_left; simp only [Act.put, sA_, sB_, sC_, i64_w, i32_w]; rfl
     refine pure_ (i := 6) (N := some 46) (v := ?_) (a' := ?_) #[t_,f_,t_,f_,t_,t_,t_,f_,f_,f_,f_,f_] rfl rfl (any_of HT_.out (by kernel_rfl)) (fun _ _ _ h => h) (Or.inl ⟨by rfl, ?_⟩) ?_ ?_; rotate_left; intro w'; go_simp; with_reducible rfl; rotate_left; simp only [Act.put, sA_, sB_, sC_, i64_w, i32_w]; rfl
     refine pure_ (i := 7) (N := some 47) (v := ?_) (a' := ?_) #[t_,f_,t_,f_,t_,t_,t_,t_,f_,f_,f_,f_] rfl rfl (any_of HT_.out (by kernel_rfl)) (fun _ _ _ h => h) (Or.inl ⟨by rfl, ?_⟩) ?_ ?_; rotate_left; intro w'; go_simp; with_reducible rfl; rotate_left; simp only [Act.put, sA_, sB_, sC_, i64_w, i32_w]; rfl
     refine take_ (i := 1) (N := some 41) (v := ?_) (a' := ?_) #[t_,t_,t_,f_,t_,t_,t_,t_,f_,f_,f_,f_] rfl rfl (take_ofW HT_.out HW_.out (by kernel_rfl)) (fun _ _ _ h => h) (Or.inl ⟨by rfl, ?_⟩) hHeld ?_ ?_; rotate_left; rintro w' ⟨s0, s1, s2, s3, s4, s5, s6, s7, s8, s9, s10, s11⟩; go_simp; with_reducible rfl; rotate_left; simp only [Act.put, sA_, sB_, sC_, i64_w, i32_w]; rfl
     refine pure_ (i := 3) (N := some 43) (v := ?_) (a' := ?_) #[t_,t_,t_,t_,t_,t_,t_,t_,f_,f_,f_,f_] rfl rfl (any_of HT_.out (by kernel_rfl)) (fun _ _ _ h => h) (Or.inl ⟨by rfl, ?_⟩) ?_ ?_; rotate_left; intro w'; go_simp; with_reducible rfl; rotate_left; simp only [Act.put, sA_, sB_, sC_, i64_w, i32_w]; rfl
     refine take_ (i := 8) (N := some 48) (v := ?_) (a' := ?_) #[t_,t_,t_,t_,t_,t_,t_,t_,t_,f_,f_,f_] rfl rfl (take_ofW HT_.out HW_.out (by kernel_rfl)) (fun _ _ _ h => h) (Or.inl ⟨by rfl, ?_⟩) hHeld ?_ ?_; rotate_left; rintro w' ⟨s0, s1, s2, s3, s4, s5, s6, s7, s8, s9, s10, s11⟩; go_simp; with_reducible rfl; rotate_left; simp only [Act.put, sA_, sB_, sC_, i64_w, i32_w]; rfl
     refine pure_ (i := 9) (N := some 49) (v := ?_) (a' := ?_) #[t_,t_,t_,t_,t_,t_,t_,t_,t_,t_,f_,f_] rfl rfl (any_of HT_.out (by kernel_rfl)) (fun _ _ _ h => h) (Or.inl ⟨by rfl, ?_⟩) ?_ ?_; rotate_left; intro w'; go_simp; with_reducible rfl; rotate_left; simp only [Act.put, sA_, sB_, sC_, i64_w, i32_w]; rfl
     refine pure_ (i := 10) (N := some 50) (v := ?_) (a' := ?_) #[t_,t_,t_,t_,t_,t_,t_,t_,t_,t_,t_,f_] rfl rfl (any_of HT_.out (by kernel_rfl)) (fun _ _ _ h => h) (Or.inl ⟨by rfl, ?_⟩) ?_ ?_; rotate_left; intro w'; go_simp; with_reducible rfl; rotate_left; simp only [Act.put, sA_, sB_, sC_, i64_w, i32_w]; rfl
     refine last_ (i := 11) (N := none) #[t_,t_,t_,t_,t_,t_,t_,t_,t_,t_,t_,t_] rfl rfl (one_of HT_.out (by kernel_rfl)) (by decide) (fun K hK => ?_)
     have hs18 : w17.cell? ⟨gb139, 5, none⟩ = some (.int .i64 ((rd_T41 l0 x4_1).f5)) := (blk_cell BK139.out 5).trans rfl
     have hfs18 := blk_frozen BK139.out 5
     refine skip_ (w1 := ?_) (by rfl) rfl ?_ ?_
     rotate_left
     · go_simp
       rfl
     refine hK.out _ _ ?_
     clear hK K
     refine done_ (done_of HT_.out (by kernel_rfl)) ?_
     have n0_ : Aside0 (Kd.R k87 87 (w17.setCell ⟨gb139, 5, none⟩ (.int .i64 (wrap64 ((wrap64 (((rd_T41 l0 x4_1).f5) + x5_2)) - ((rd_T41 l0 x4_1).f0))))) w.heap.size (fun _ => True) v134 x3_2) := ⟨by (with_reducible repeat (first | apply Kd.R_alloc | apply Kd.R_drewN | apply Kd.R_drew)); exact Kd.R_mono (Kd.R_far (p := ⟨gb139, 5, none⟩) (Kd.R_types HO_3.out BK139.out (by decide)) (fun _ hk => hk.2) (.int .i64 (wrap64 ((wrap64 (((rd_T41 l0 x4_1).f5) + x5_2)) - ((rd_T41 l0 x4_1).f0))))) (fun _ hk => trivial)⟩
     have n1_ : Aside0 ((w17.setCell ⟨gb139, 5, none⟩ (.int .i64 (wrap64 ((wrap64 (((rd_T41 l0 x4_1).f5) + x5_2)) - ((rd_T41 l0 x4_1).f0))))).heap[gb139]? = some (.cells #[.int .i64 x5_2, .int .i64 (wrap64 (x5_2 + 1)), .int .i64 ((rd_T41 l0 x4_1).f2), .int .i64 ((rd_T41 l0 x4_1).f3), .int .i64 ((rd_T41 l0 x4_1).f4), .int .i64 (wrap64 ((wrap64 (((rd_T41 l0 x4_1).f5) + x5_2)) - ((rd_T41 l0 x4_1).f0)))] 41 (0, 0))) := ⟨by (with_reducible repeat (first | refine blk_drewN ?_ _ | refine blk_drew ?_ | refine blk_alloc ?_ _)); refine blk_put (cs := #[.int .i64 x5_2, .int .i64 (wrap64 (x5_2 + 1)), .int .i64 ((rd_T41 l0 x4_1).f2), .int .i64 ((rd_T41 l0 x4_1).f3), .int .i64 ((rd_T41 l0 x4_1).f4), .int .i64 ((rd_T41 l0 x4_1).f5)]) ?_ 5 _ rfl; (with_reducible repeat (first | refine blk_drewN ?_ _ | refine blk_drew ?_ | refine blk_alloc ?_ _)); exact BK139.out⟩
     have n2_ : Aside0 (Below w.heap.size w (w17.setCell ⟨gb139, 5, none⟩ (.int .i64 (wrap64 ((wrap64 (((rd_T41 l0 x4_1).f5) + x5_2)) - ((rd_T41 l0 x4_1).f0)))))) := ⟨by repeat (first | (with_reducible first | exact HB.out | apply below_alloc | apply pw_below_drewN | apply below_drew1 | refine below_set ?_ GE139.out) | exact HB.out)⟩
     (try clear HO_3)
     (try clear BK139)
     (try clear HB)
     generalize (w17.setCell ⟨gb139, 5, none⟩ (.int .i64 (wrap64 ((wrap64 (((rd_T41 l0 x4_1).f5) + x5_2)) - ((rd_T41 l0 x4_1).f0))))) = w19 at n0_ n1_ n2_ ⊢
     have HO_3 := n0_
     have BK139 := n1_
     have HB := n2_
     clear n0_ n1_ n2_
     have hcz20_0 : w19.cell? ⟨gb139, 0, none⟩ = some (.int .i64 x5_2) := (blk_cell BK139.out 0).trans rfl
     have hcz20_1 : w19.cell? ⟨gb139, 1, none⟩ = some (.int .i64 (wrap64 (x5_2 + 1))) := (blk_cell BK139.out 1).trans rfl
     have hcz20_2 : w19.cell? ⟨gb139, 2, none⟩ = some (.int .i64 ((rd_T41 l0 x4_1).f2)) := (blk_cell BK139.out 2).trans rfl
     have hcz20_3 : w19.cell? ⟨gb139, 3, none⟩ = some (.int .i64 ((rd_T41 l0 x4_1).f3)) := (blk_cell BK139.out 3).trans rfl
     have hcz20_4 : w19.cell? ⟨gb139, 4, none⟩ = some (.int .i64 ((rd_T41 l0 x4_1).f4)) := (blk_cell BK139.out 4).trans rfl
     have hcz20_5 : w19.cell? ⟨gb139, 5, none⟩ = some (.int .i64 (wrap64 ((wrap64 (((rd_T41 l0 x4_1).f5) + x5_2)) - ((rd_T41 l0 x4_1).f0)))) := (blk_cell BK139.out 5).trans rfl
     have hfz20_0 := blk_frozen BK139.out 0
     have hfz20_1 := blk_frozen BK139.out 1
     have hfz20_2 := blk_frozen BK139.out 2
     have hfz20_3 := blk_frozen BK139.out 3
     have hfz20_4 := blk_frozen BK139.out 4
     have hfz20_5 := blk_frozen BK139.out 5
     have p13 : 0 ≤ (x5_2 : Int) := of_decide_eq_true (by first | (with_reducible assumption) | assumption)
     have q13 : (x5_2 : Int) < ((x3_2.length : Int) : Int) := of_decide_eq_true (by first | (with_reducible assumption) | assumption)
     obtain ⟨go13, co13, eo13, gb13, gl13, cl13, HG13⟩ := Kd.R_form HO_3.out (by omega)
     (first | cases eo13 | (injection eo13 with ea_ en_ ec_; (first | subst ea_ | (injection ea_ with ea_; subst ea_)); subst ec_; clear en_))
     have GB13 := Aside0.mk gb13
     have GG13 := Aside0.mk HG13
     clear gb13 gl13 HG13
     obtain ⟨ce13, hcl13, hM13, hcc13, hfr13⟩ := Kd.R_elem HO_3.out z87 (x5_2 : Int) p13 q13
     obtain rfl := k87_openM hM13
     have hx13_0 : w19.cell? ⟨go13, (x5_2 : Int).toNat * 7, none⟩ = some (.int .i64 ((rd_T87 x3_2 x5_2).f0.f0)) := hcc13 0 _ rfl
     have hx13_1 : w19.cell? ⟨go13, (x5_2 : Int).toNat * 7 + 1, none⟩ = some (.int .i64 ((rd_T87 x3_2 x5_2).f0.f1)) := hcc13 1 _ rfl
     have hx13_2 : w19.cell? ⟨go13, (x5_2 : Int).toNat * 7 + 2, none⟩ = some (.int .i64 ((rd_T87 x3_2 x5_2).f0.f2)) := hcc13 2 _ rfl
     have hx13_3 : w19.cell? ⟨go13, (x5_2 : Int).toNat * 7 + 3, none⟩ = some (.int .i64 ((rd_T87 x3_2 x5_2).f0.f3)) := hcc13 3 _ rfl
     have hx13_4 : w19.cell? ⟨go13, (x5_2 : Int).toNat * 7 + 4, none⟩ = some (.int .i64 ((rd_T87 x3_2 x5_2).f0.f4)) := hcc13 4 _ rfl
     have hx13_5 : w19.cell? ⟨go13, (x5_2 : Int).toNat * 7 + 5, none⟩ = some (.int .i64 ((rd_T87 x3_2 x5_2).f0.f5)) := hcc13 5 _ rfl
     have hx13_6 : w19.cell? ⟨go13, (x5_2 : Int).toNat * 7 + 6, none⟩ = some (.bool ((rd_T87 x3_2 x5_2).f1)) := hcc13 6 _ rfl
     have hf13_0 : w19.frozen? ⟨go13, (x5_2 : Int).toNat * 7, none⟩ = false := hfr13 0
     have hf13_1 : w19.frozen? ⟨go13, (x5_2 : Int).toNat * 7 + 1, none⟩ = false := hfr13 1
     have hf13_2 : w19.frozen? ⟨go13, (x5_2 : Int).toNat * 7 + 2, none⟩ = false := hfr13 2
     have hf13_3 : w19.frozen? ⟨go13, (x5_2 : Int).toNat * 7 + 3, none⟩ = false := hfr13 3
     have hf13_4 : w19.frozen? ⟨go13, (x5_2 : Int).toNat * 7 + 4, none⟩ = false := hfr13 4
     have hf13_5 : w19.frozen? ⟨go13, (x5_2 : Int).toNat * 7 + 5, none⟩ = false := hfr13 5
     have hf13_6 : w19.frozen? ⟨go13, (x5_2 : Int).toNat * 7 + 6, none⟩ = false := hfr13 6
     clear hcl13 hcc13 hfr13 hM13
     replace p13 := eq_true p13
     replace q13 := eq_true q13
     have HX21 := Aside0.mk (show Kd.R k87 87 w19 w.heap.size (fun _ => True) (.slice (some ⟨go13, 0, none⟩) x3_2.length co13) x3_2 from (by (with_reducible repeat (first | apply Kd.R_alloc | apply Kd.R_drewN | apply Kd.R_drew)); exact HO_3.out))
     obtain ⟨ce21, hcl21, hM21, hcc21, hfr21⟩ := Kd.R_elem HX21.out z87 (x5_2 : Int) (of_decide_eq_true (by first | (with_reducible assumption) | assumption)) (by have h_ : (x5_2 : Int) < ((x3_2.length : Int) : Int) := of_decide_eq_true (by first | (with_reducible assumption) | assumption); first | exact h_ | (have e_ := (Kd.R_reads' HO_3.out).1; omega) | simpa using h_)
     obtain rfl := k87_openM hM21
     have HP21 := Kd.R_seg HX21.out (x5_2 : Int) (of_decide_eq_true (by first | (with_reducible assumption) | assumption)) (by have h_ : (x5_2 : Int) < ((x3_2.length : Int) : Int) := of_decide_eq_true (by first | (with_reducible assumption) | assumption); first | exact h_ | (have e_ := (Kd.R_reads' HO_3.out).1; omega) | simpa using h_) (seg := [.int .i64 x5_2, .int .i64 (wrap64 (x5_2 + 1)), .int .i64 ((rd_T41 l0 x4_1).f2), .int .i64 ((rd_T41 l0 x4_1).f3), .int .i64 ((rd_T41 l0 x4_1).f4), .int .i64 (wrap64 ((wrap64 (((rd_T41 l0 x4_1).f5) + x5_2)) - ((rd_T41 l0 x4_1).f0))), .bool true]) (j := 0) hcl21 hcc21 (show 7 ≤ 7 from by decide) (x' := (⟨(⟨x5_2, wrap64 (x5_2 + 1), (rd_T41 l0 x4_1).f2, (rd_T41 l0 x4_1).f3, (rd_T41 l0 x4_1).f4, wrap64 ((wrap64 (((rd_T41 l0 x4_1).f5) + x5_2)) - ((rd_T41 l0 x4_1).f0))⟩ : S41), true⟩ : S87)) (k87_mkM _ _ _ (⟨(⟨x5_2, wrap64 (x5_2 + 1), (rd_T41 l0 x4_1).f2, (rd_T41 l0 x4_1).f3, (rd_T41 l0 x4_1).f4, wrap64 ((wrap64 (((rd_T41 l0 x4_1).f5) + x5_2)) - ((rd_T41 l0 x4_1).f0))⟩ : S41), true⟩ : S87) ) (fun _ hk => hk)
     have hx21_0 := hcc21 0 _ rfl
     (try simp only [show (k87).sz = 7 from rfl, Nat.mul_one, Nat.add_zero] at hx21_0)
     have hf21_0 := hfr21 0
     (try simp only [show (k87).sz = 7 from rfl, Nat.mul_one, Nat.add_zero] at hf21_0)
     have hx21_1 := hcc21 1 _ rfl
     (try simp only [show (k87).sz = 7 from rfl, Nat.mul_one, Nat.add_zero] at hx21_1)
     have hf21_1 := hfr21 1
     (try simp only [show (k87).sz = 7 from rfl, Nat.mul_one, Nat.add_zero] at hf21_1)
     have hx21_2 := hcc21 2 _ rfl
     (try simp only [show (k87).sz = 7 from rfl, Nat.mul_one, Nat.add_zero] at hx21_2)
     have hf21_2 := hfr21 2
     (try simp only [show (k87).sz = 7 from rfl, Nat.mul_one, Nat.add_zero] at hf21_2)
     have hx21_3 := hcc21 3 _ rfl
     (try simp only [show (k87).sz = 7 from rfl, Nat.mul_one, Nat.add_zero] at hx21_3)
     have hf21_3 := hfr21 3
     (try simp only [show (k87).sz = 7 from rfl, Nat.mul_one, Nat.add_zero] at hf21_3)
     have hx21_4 := hcc21 4 _ rfl
     (try simp only [show (k87).sz = 7 from rfl, Nat.mul_one, Nat.add_zero] at hx21_4)
     have hf21_4 := hfr21 4
     (try simp only [show (k87).sz = 7 from rfl, Nat.mul_one, Nat.add_zero] at hf21_4)
     have hx21_5 := hcc21 5 _ rfl
     (try simp only [show (k87).sz = 7 from rfl, Nat.mul_one, Nat.add_zero] at hx21_5)
     have hf21_5 := hfr21 5
     (try simp only [show (k87).sz = 7 from rfl, Nat.mul_one, Nat.add_zero] at hf21_5)
     have hx21_6 := hcc21 6 _ rfl
     (try simp only [show (k87).sz = 7 from rfl, Nat.mul_one, Nat.add_zero] at hx21_6)
     have hf21_6 := hfr21 6
     (try simp only [show (k87).sz = 7 from rfl, Nat.mul_one, Nat.add_zero] at hf21_6)
     clear hcl21 hcc21 hfr21 hM21
     try go_wp2_with (first | ((with_reducible refine gate_store (t := 87) (p := 55) rfl ?_); refine store_event (t := 87) (p := 55) (v := ?vo_w22) (w1 := (((((((w19.setCell ⟨go13, (x5_2 : Int).toNat * 7, none⟩ (.int .i64 x5_2)).setCell ⟨go13, (x5_2 : Int).toNat * 7 + 1, none⟩ (.int .i64 (wrap64 (x5_2 + 1)))).setCell ⟨go13, (x5_2 : Int).toNat * 7 + 2, none⟩ (.int .i64 ((rd_T41 l0 x4_1).f2))).setCell ⟨go13, (x5_2 : Int).toNat * 7 + 3, none⟩ (.int .i64 ((rd_T41 l0 x4_1).f3))).setCell ⟨go13, (x5_2 : Int).toNat * 7 + 4, none⟩ (.int .i64 ((rd_T41 l0 x4_1).f4))).setCell ⟨go13, (x5_2 : Int).toNat * 7 + 5, none⟩ (.int .i64 (wrap64 ((wrap64 (((rd_T41 l0 x4_1).f5) + x5_2)) - ((rd_T41 l0 x4_1).f0))))).setCell ⟨go13, (x5_2 : Int).toNat * 7 + 6, none⟩ (.bool true))) ?hg ?ho ?hn ?hr ?_; (case ho => rfl); (case hg => rfl); (case hn => rfl); (case hr => first | (go_simp; done) | (go_simp; rfl)); intro w22 hw; have hg : w19.grownBy w22 (some go13) := (by rw [hw]; exact HP21.2); have hp_ : Kd.R k87 87 w22 w.heap.size (fun _ => True) (.slice (some ⟨go13, 0, none⟩) x3_2.length co13) y141 := (by rw [hw, Ny141.out]; exact HP21.1); clear HP21; have n0_ := Aside0.mk (hp_); have n1_ := Aside0.mk (blk_grown (g := gb139) (o := .cells #[.int .i64 x5_2, .int .i64 (wrap64 (x5_2 + 1)), .int .i64 ((rd_T41 l0 x4_1).f2), .int .i64 ((rd_T41 l0 x4_1).f3), .int .i64 ((rd_T41 l0 x4_1).f4), .int .i64 (wrap64 ((wrap64 (((rd_T41 l0 x4_1).f5) + x5_2)) - ((rd_T41 l0 x4_1).f0)))] 41 (0, 0)) (by (with_reducible repeat (first | refine blk_drewN ?_ _ | refine blk_drew ?_ | refine blk_alloc ?_ _)); exact BK139.out) hg (Kd.R_ne HO_3.out BK139.out (by decide))); have n2_ := Aside0.mk ((by rw [hw]; exact below_set (below_set (below_set (below_set (below_set (below_set (below_set (HB.out) GB13.out) GB13.out) GB13.out) GB13.out) GB13.out) GB13.out) GB13.out : Below w.heap.size w w22)); clear HO_3; clear BK139; clear HB; have HO_3 := n0_; have BK139 := n1_; have HB := n2_; clear n0_ n1_ n2_; clear hg hw hp_))
     go_roundg k2
     case measure => have := HK1.out; have := HK2.out; omega
     case rel => exact ⟨(y141), (wrap64 (x5_2 + 1)), (by first | rfl | (simp; done) | (simp [*]; done)), H', ⟨by have := HK1.out; have := HK2.out; omega⟩, ⟨by (with_reducible repeat (first | apply Kd.R_alloc | apply Kd.R_drewN | apply Kd.R_drew)); exact HO_3.out⟩, ⟨by repeat (first | (with_reducible first | exact HB.out | apply below_alloc | apply pw_below_drewN | apply below_drew1 | refine below_set ?_ GE139.out) | exact HB.out)⟩⟩

/-! ### flyleafref15_one: function 134 -/
def flyleafref15_one.f (a0_0 : Int) (a0_1 : Int) (a0_2 : Int) (a0_3 : Int) (a0_4 : Int) (a0_5 : Int) (a1_0 : Int) (a1_1 : Int) (a1_2 : Int) (a1_3 : Int) (a1_4 : Int) (a1_5 : Int) : Option (Bool) := if a0_1 = a1_0 then (if a0_2 = a1_2 then (if a0_3 = a1_3 then (if a0_4 = a1_4 then (if a0_3 = 1 then (some (a1_5 == (wrap64 ((wrap64 (a0_5 + a0_1)) - a0_0)))) else (some true)) else (some false)) else (some false)) else (some false)) else (some false)
set_option maxHeartbeats 8000000 in
set_option maxRecDepth 100000 in
theorem flyleafref15_one.calls (a0_0 : Int) (a0_1 : Int) (a0_2 : Int) (a0_3 : Int) (a0_4 : Int) (a0_5 : Int) (a1_0 : Int) (a1_1 : Int) (a1_2 : Int) (a1_3 : Int) (a1_4 : Int) (a1_5 : Int) (r : Bool) (w : World) (h : flyleafref15_one.f a0_0 a0_1 a0_2 a0_3 a0_4 a0_5 a1_0 a1_1 a1_2 a1_3 a1_4 a1_5 = some r) :
    Calls Try.prog 134 #[.agg #[.int .i64 a0_0, .int .i64 a0_1, .int .i64 a0_2, .int .i64 a0_3, .int .i64 a0_4, .int .i64 a0_5], .agg #[.int .i64 a1_0, .int .i64 a1_1, .int .i64 a1_2, .int .i64 a1_3, .int .i64 a1_4, .int .i64 a1_5]] w fun e w' => e = .returned (.bool r) ∧ Below w.heap.size w w' := by
 have hu41 := Try.underlying41
 have HB := Aside0.mk (Below.refl w.heap.size w)
 have H : (if a0_1 = a1_0 then (if a0_2 = a1_2 then (if a0_3 = a1_3 then (if a0_4 = a1_4 then (if a0_3 = 1 then (some (a1_5 == (wrap64 ((wrap64 (a0_5 + a0_1)) - a0_0)))) else (some true)) else (some false)) else (some false)) else (some false)) else (some false)) = some r := h
 clear h
 by_cases c3 : a0_1 = a1_0
 rotate_left
 · rw [if_neg c3] at H
   have c3b0 : (a0_1 == a1_0) = false := beq_eq_false_iff_ne.mpr c3
   have c3b1 : (a0_1 != a1_0) = true := bne_iff_ne.mpr c3
   obtain rfl := Option.some.inj H
   go_enter Try.func134, Try.ntmps134
   go_wp2_with (first | ((with_reducible refine gate_dst (N := 2) rfl ?_); refine box_event ?hg (N := 2) ?hd (cs := #[.int .i64 a0_0, .int .i64 a0_1, .int .i64 a0_2, .int .i64 a0_3, .int .i64 a0_4, .int .i64 a0_5]) (t := 41) ?hr ?_; (case hd => rfl); (case hg => rfl); (case hr => first | (go_simp; done) | (go_simp; rfl)); intro gb143 hg w33 hbox hb; have n0_ := Aside0.mk (below_step (by repeat (first | (with_reducible first | exact HB.out | apply below_alloc | apply pw_below_drewN | apply below_drew1) | exact HB.out)) hb); have n1_ := Aside0.mk (hbox); have n2_ := Aside0.mk ((by rw [hg]; exact (below_size (by repeat (first | (with_reducible first | exact HB.out | apply below_alloc | apply pw_below_drewN | apply below_drew1) | exact HB.out))) : w.heap.size ≤ gb143)); have n3_ := Aside0.mk ((by rw [hg]; exact (below_size (by repeat (first | (with_reducible first | exact HB.out | apply below_alloc | apply pw_below_drewN | apply below_drew1) | exact HB.out))) : w.heap.size ≤ gb143)); clear HB; have HB := n0_; have BK143 := n1_; have GW143 := n2_; have GE143 := n3_; clear n0_ n1_ n2_ n3_; clear hb hbox hg) | ((with_reducible refine gate_dst (N := 3) rfl ?_); refine box_event ?hg (N := 3) ?hd (cs := #[.int .i64 a1_0, .int .i64 a1_1, .int .i64 a1_2, .int .i64 a1_3, .int .i64 a1_4, .int .i64 a1_5]) (t := 41) ?hr ?_; (case hd => rfl); (case hg => rfl); (case hr => first | (go_simp; done) | (go_simp; rfl)); intro gb144 hg w34 hbox hb; have n0_ := Aside0.mk (blk_below (g := gb143) (o := .cells #[.int .i64 a0_0, .int .i64 a0_1, .int .i64 a0_2, .int .i64 a0_3, .int .i64 a0_4, .int .i64 a0_5] 41 (0, 0)) (by (with_reducible repeat (first | refine blk_drewN ?_ _ | refine blk_drew ?_ | refine blk_alloc ?_ _)); exact BK143.out) hb); have n1_ := Aside0.mk (below_step (by repeat (first | (with_reducible first | exact HB.out | apply below_alloc | apply pw_below_drewN | apply below_drew1 | refine below_set ?_ GE143.out) | exact HB.out)) hb); have n2_ := Aside0.mk (hbox); have n3_ := Aside0.mk ((by rw [hg]; exact (below_size (by repeat (first | (with_reducible first | exact HB.out | apply below_alloc | apply pw_below_drewN | apply below_drew1 | refine below_set ?_ GE143.out) | exact HB.out))) : w.heap.size ≤ gb144)); have n4_ := Aside0.mk ((by rw [hg]; exact (below_size (by repeat (first | (with_reducible first | exact HB.out | apply below_alloc | apply pw_below_drewN | apply below_drew1 | refine below_set ?_ GE143.out) | exact HB.out))) : w.heap.size ≤ gb144)); have n5_ := Aside0.mk ((by rw [hg]; exact Nat.ne_of_lt (blk_lt (g := gb143) (o := .cells #[.int .i64 a0_0, .int .i64 a0_1, .int .i64 a0_2, .int .i64 a0_3, .int .i64 a0_4, .int .i64 a0_5] 41 (0, 0)) (by (with_reducible repeat (first | refine blk_drewN ?_ _ | refine blk_drew ?_ | refine blk_alloc ?_ _)); exact BK143.out)) : gb143 ≠ gb144)); have n6_ := Aside0.mk ((by rw [hg]; exact Nat.ne_of_gt (blk_lt (g := gb143) (o := .cells #[.int .i64 a0_0, .int .i64 a0_1, .int .i64 a0_2, .int .i64 a0_3, .int .i64 a0_4, .int .i64 a0_5] 41 (0, 0)) (by (with_reducible repeat (first | refine blk_drewN ?_ _ | refine blk_drew ?_ | refine blk_alloc ?_ _)); exact BK143.out)) : gb144 ≠ gb143)); clear BK143; clear HB; have BK143 := n0_; have HB := n1_; have BK144 := n2_; have GW144 := n3_; have GE144 := n4_; have NB143_144 := n5_; have NB144_143 := n6_; clear n0_ n1_ n2_ n3_ n4_ n5_ n6_; clear hb hbox hg; have hnb35 := NB143_144.out; have hnc35 := NB144_143.out; have hcz36_0 : w34.cell? ⟨gb143, 0, none⟩ = some (.int .i64 a0_0) := (blk_cell BK143.out 0).trans rfl; have hcz36_1 : w34.cell? ⟨gb143, 1, none⟩ = some (.int .i64 a0_1) := (blk_cell BK143.out 1).trans rfl; have hcz36_2 : w34.cell? ⟨gb143, 2, none⟩ = some (.int .i64 a0_2) := (blk_cell BK143.out 2).trans rfl; have hcz36_3 : w34.cell? ⟨gb143, 3, none⟩ = some (.int .i64 a0_3) := (blk_cell BK143.out 3).trans rfl; have hcz36_4 : w34.cell? ⟨gb143, 4, none⟩ = some (.int .i64 a0_4) := (blk_cell BK143.out 4).trans rfl; have hcz36_5 : w34.cell? ⟨gb143, 5, none⟩ = some (.int .i64 a0_5) := (blk_cell BK143.out 5).trans rfl; have hfz36_0 := blk_frozen BK143.out 0; have hfz36_1 := blk_frozen BK143.out 1; have hfz36_2 := blk_frozen BK143.out 2; have hfz36_3 := blk_frozen BK143.out 3; have hfz36_4 := blk_frozen BK143.out 4; have hfz36_5 := blk_frozen BK143.out 5; have hcz37_0 : w34.cell? ⟨gb144, 0, none⟩ = some (.int .i64 a1_0) := (blk_cell BK144.out 0).trans rfl; have hcz37_1 : w34.cell? ⟨gb144, 1, none⟩ = some (.int .i64 a1_1) := (blk_cell BK144.out 1).trans rfl; have hcz37_2 : w34.cell? ⟨gb144, 2, none⟩ = some (.int .i64 a1_2) := (blk_cell BK144.out 2).trans rfl; have hcz37_3 : w34.cell? ⟨gb144, 3, none⟩ = some (.int .i64 a1_3) := (blk_cell BK144.out 3).trans rfl; have hcz37_4 : w34.cell? ⟨gb144, 4, none⟩ = some (.int .i64 a1_4) := (blk_cell BK144.out 4).trans rfl; have hcz37_5 : w34.cell? ⟨gb144, 5, none⟩ = some (.int .i64 a1_5) := (blk_cell BK144.out 5).trans rfl; have hfz37_0 := blk_frozen BK144.out 0; have hfz37_1 := blk_frozen BK144.out 1; have hfz37_2 := blk_frozen BK144.out 2; have hfz37_3 := blk_frozen BK144.out 3; have hfz37_4 := blk_frozen BK144.out 4; have hfz37_5 := blk_frozen BK144.out 5))
   go_ret
   exact ⟨by first | rfl | (simp [errW_none, errW_some] <;> rfl) | (simp [*, errW_none, errW_some] <;> rfl), by repeat (first | (with_reducible first | exact HB.out | apply below_alloc | apply pw_below_drewN | apply below_drew1 | refine below_set ?_ GE143.out | refine below_set ?_ GE144.out) | exact HB.out)⟩
 rw [if_pos c3] at H
 have c3b0 : (a0_1 == a1_0) = true := beq_iff_eq.mpr c3
 have c3b1 : (a0_1 != a1_0) = false := bne_eq_false_iff_eq.mpr c3
 clear c3
 by_cases c4 : a0_2 = a1_2
 rotate_left
 · rw [if_neg c4] at H
   have c4b0 : (a0_2 == a1_2) = false := beq_eq_false_iff_ne.mpr c4
   have c4b1 : (a0_2 != a1_2) = true := bne_iff_ne.mpr c4
   obtain rfl := Option.some.inj H
   go_enter Try.func134, Try.ntmps134
   go_wp2_with (first | ((with_reducible refine gate_dst (N := 2) rfl ?_); refine box_event ?hg (N := 2) ?hd (cs := #[.int .i64 a0_0, .int .i64 a0_1, .int .i64 a0_2, .int .i64 a0_3, .int .i64 a0_4, .int .i64 a0_5]) (t := 41) ?hr ?_; (case hd => rfl); (case hg => rfl); (case hr => first | (go_simp; done) | (go_simp; rfl)); intro gb143 hg w28 hbox hb; have n0_ := Aside0.mk (below_step (by repeat (first | (with_reducible first | exact HB.out | apply below_alloc | apply pw_below_drewN | apply below_drew1) | exact HB.out)) hb); have n1_ := Aside0.mk (hbox); have n2_ := Aside0.mk ((by rw [hg]; exact (below_size (by repeat (first | (with_reducible first | exact HB.out | apply below_alloc | apply pw_below_drewN | apply below_drew1) | exact HB.out))) : w.heap.size ≤ gb143)); have n3_ := Aside0.mk ((by rw [hg]; exact (below_size (by repeat (first | (with_reducible first | exact HB.out | apply below_alloc | apply pw_below_drewN | apply below_drew1) | exact HB.out))) : w.heap.size ≤ gb143)); clear HB; have HB := n0_; have BK143 := n1_; have GW143 := n2_; have GE143 := n3_; clear n0_ n1_ n2_ n3_; clear hb hbox hg) | ((with_reducible refine gate_dst (N := 3) rfl ?_); refine box_event ?hg (N := 3) ?hd (cs := #[.int .i64 a1_0, .int .i64 a1_1, .int .i64 a1_2, .int .i64 a1_3, .int .i64 a1_4, .int .i64 a1_5]) (t := 41) ?hr ?_; (case hd => rfl); (case hg => rfl); (case hr => first | (go_simp; done) | (go_simp; rfl)); intro gb144 hg w29 hbox hb; have n0_ := Aside0.mk (blk_below (g := gb143) (o := .cells #[.int .i64 a0_0, .int .i64 a0_1, .int .i64 a0_2, .int .i64 a0_3, .int .i64 a0_4, .int .i64 a0_5] 41 (0, 0)) (by (with_reducible repeat (first | refine blk_drewN ?_ _ | refine blk_drew ?_ | refine blk_alloc ?_ _)); exact BK143.out) hb); have n1_ := Aside0.mk (below_step (by repeat (first | (with_reducible first | exact HB.out | apply below_alloc | apply pw_below_drewN | apply below_drew1 | refine below_set ?_ GE143.out) | exact HB.out)) hb); have n2_ := Aside0.mk (hbox); have n3_ := Aside0.mk ((by rw [hg]; exact (below_size (by repeat (first | (with_reducible first | exact HB.out | apply below_alloc | apply pw_below_drewN | apply below_drew1 | refine below_set ?_ GE143.out) | exact HB.out))) : w.heap.size ≤ gb144)); have n4_ := Aside0.mk ((by rw [hg]; exact (below_size (by repeat (first | (with_reducible first | exact HB.out | apply below_alloc | apply pw_below_drewN | apply below_drew1 | refine below_set ?_ GE143.out) | exact HB.out))) : w.heap.size ≤ gb144)); have n5_ := Aside0.mk ((by rw [hg]; exact Nat.ne_of_lt (blk_lt (g := gb143) (o := .cells #[.int .i64 a0_0, .int .i64 a0_1, .int .i64 a0_2, .int .i64 a0_3, .int .i64 a0_4, .int .i64 a0_5] 41 (0, 0)) (by (with_reducible repeat (first | refine blk_drewN ?_ _ | refine blk_drew ?_ | refine blk_alloc ?_ _)); exact BK143.out)) : gb143 ≠ gb144)); have n6_ := Aside0.mk ((by rw [hg]; exact Nat.ne_of_gt (blk_lt (g := gb143) (o := .cells #[.int .i64 a0_0, .int .i64 a0_1, .int .i64 a0_2, .int .i64 a0_3, .int .i64 a0_4, .int .i64 a0_5] 41 (0, 0)) (by (with_reducible repeat (first | refine blk_drewN ?_ _ | refine blk_drew ?_ | refine blk_alloc ?_ _)); exact BK143.out)) : gb144 ≠ gb143)); clear BK143; clear HB; have BK143 := n0_; have HB := n1_; have BK144 := n2_; have GW144 := n3_; have GE144 := n4_; have NB143_144 := n5_; have NB144_143 := n6_; clear n0_ n1_ n2_ n3_ n4_ n5_ n6_; clear hb hbox hg; have hnb30 := NB143_144.out; have hnc30 := NB144_143.out; have hcz31_0 : w29.cell? ⟨gb143, 0, none⟩ = some (.int .i64 a0_0) := (blk_cell BK143.out 0).trans rfl; have hcz31_1 : w29.cell? ⟨gb143, 1, none⟩ = some (.int .i64 a0_1) := (blk_cell BK143.out 1).trans rfl; have hcz31_2 : w29.cell? ⟨gb143, 2, none⟩ = some (.int .i64 a0_2) := (blk_cell BK143.out 2).trans rfl; have hcz31_3 : w29.cell? ⟨gb143, 3, none⟩ = some (.int .i64 a0_3) := (blk_cell BK143.out 3).trans rfl; have hcz31_4 : w29.cell? ⟨gb143, 4, none⟩ = some (.int .i64 a0_4) := (blk_cell BK143.out 4).trans rfl; have hcz31_5 : w29.cell? ⟨gb143, 5, none⟩ = some (.int .i64 a0_5) := (blk_cell BK143.out 5).trans rfl; have hfz31_0 := blk_frozen BK143.out 0; have hfz31_1 := blk_frozen BK143.out 1; have hfz31_2 := blk_frozen BK143.out 2; have hfz31_3 := blk_frozen BK143.out 3; have hfz31_4 := blk_frozen BK143.out 4; have hfz31_5 := blk_frozen BK143.out 5; have hcz32_0 : w29.cell? ⟨gb144, 0, none⟩ = some (.int .i64 a1_0) := (blk_cell BK144.out 0).trans rfl; have hcz32_1 : w29.cell? ⟨gb144, 1, none⟩ = some (.int .i64 a1_1) := (blk_cell BK144.out 1).trans rfl; have hcz32_2 : w29.cell? ⟨gb144, 2, none⟩ = some (.int .i64 a1_2) := (blk_cell BK144.out 2).trans rfl; have hcz32_3 : w29.cell? ⟨gb144, 3, none⟩ = some (.int .i64 a1_3) := (blk_cell BK144.out 3).trans rfl; have hcz32_4 : w29.cell? ⟨gb144, 4, none⟩ = some (.int .i64 a1_4) := (blk_cell BK144.out 4).trans rfl; have hcz32_5 : w29.cell? ⟨gb144, 5, none⟩ = some (.int .i64 a1_5) := (blk_cell BK144.out 5).trans rfl; have hfz32_0 := blk_frozen BK144.out 0; have hfz32_1 := blk_frozen BK144.out 1; have hfz32_2 := blk_frozen BK144.out 2; have hfz32_3 := blk_frozen BK144.out 3; have hfz32_4 := blk_frozen BK144.out 4; have hfz32_5 := blk_frozen BK144.out 5))
   go_ret
   exact ⟨by first | rfl | (simp [errW_none, errW_some] <;> rfl) | (simp [*, errW_none, errW_some] <;> rfl), by repeat (first | (with_reducible first | exact HB.out | apply below_alloc | apply pw_below_drewN | apply below_drew1 | refine below_set ?_ GE143.out | refine below_set ?_ GE144.out) | exact HB.out)⟩
 rw [if_pos c4] at H
 have c4b0 : (a0_2 == a1_2) = true := beq_iff_eq.mpr c4
 have c4b1 : (a0_2 != a1_2) = false := bne_eq_false_iff_eq.mpr c4
 clear c4
 by_cases c5 : a0_3 = a1_3
 rotate_left
 · rw [if_neg c5] at H
   have c5b0 : (a0_3 == a1_3) = false := beq_eq_false_iff_ne.mpr c5
   have c5b1 : (a0_3 != a1_3) = true := bne_iff_ne.mpr c5
   obtain rfl := Option.some.inj H
   go_enter Try.func134, Try.ntmps134
   go_wp2_with (first | ((with_reducible refine gate_dst (N := 2) rfl ?_); refine box_event ?hg (N := 2) ?hd (cs := #[.int .i64 a0_0, .int .i64 a0_1, .int .i64 a0_2, .int .i64 a0_3, .int .i64 a0_4, .int .i64 a0_5]) (t := 41) ?hr ?_; (case hd => rfl); (case hg => rfl); (case hr => first | (go_simp; done) | (go_simp; rfl)); intro gb143 hg w23 hbox hb; have n0_ := Aside0.mk (below_step (by repeat (first | (with_reducible first | exact HB.out | apply below_alloc | apply pw_below_drewN | apply below_drew1) | exact HB.out)) hb); have n1_ := Aside0.mk (hbox); have n2_ := Aside0.mk ((by rw [hg]; exact (below_size (by repeat (first | (with_reducible first | exact HB.out | apply below_alloc | apply pw_below_drewN | apply below_drew1) | exact HB.out))) : w.heap.size ≤ gb143)); have n3_ := Aside0.mk ((by rw [hg]; exact (below_size (by repeat (first | (with_reducible first | exact HB.out | apply below_alloc | apply pw_below_drewN | apply below_drew1) | exact HB.out))) : w.heap.size ≤ gb143)); clear HB; have HB := n0_; have BK143 := n1_; have GW143 := n2_; have GE143 := n3_; clear n0_ n1_ n2_ n3_; clear hb hbox hg) | ((with_reducible refine gate_dst (N := 3) rfl ?_); refine box_event ?hg (N := 3) ?hd (cs := #[.int .i64 a1_0, .int .i64 a1_1, .int .i64 a1_2, .int .i64 a1_3, .int .i64 a1_4, .int .i64 a1_5]) (t := 41) ?hr ?_; (case hd => rfl); (case hg => rfl); (case hr => first | (go_simp; done) | (go_simp; rfl)); intro gb144 hg w24 hbox hb; have n0_ := Aside0.mk (blk_below (g := gb143) (o := .cells #[.int .i64 a0_0, .int .i64 a0_1, .int .i64 a0_2, .int .i64 a0_3, .int .i64 a0_4, .int .i64 a0_5] 41 (0, 0)) (by (with_reducible repeat (first | refine blk_drewN ?_ _ | refine blk_drew ?_ | refine blk_alloc ?_ _)); exact BK143.out) hb); have n1_ := Aside0.mk (below_step (by repeat (first | (with_reducible first | exact HB.out | apply below_alloc | apply pw_below_drewN | apply below_drew1 | refine below_set ?_ GE143.out) | exact HB.out)) hb); have n2_ := Aside0.mk (hbox); have n3_ := Aside0.mk ((by rw [hg]; exact (below_size (by repeat (first | (with_reducible first | exact HB.out | apply below_alloc | apply pw_below_drewN | apply below_drew1 | refine below_set ?_ GE143.out) | exact HB.out))) : w.heap.size ≤ gb144)); have n4_ := Aside0.mk ((by rw [hg]; exact (below_size (by repeat (first | (with_reducible first | exact HB.out | apply below_alloc | apply pw_below_drewN | apply below_drew1 | refine below_set ?_ GE143.out) | exact HB.out))) : w.heap.size ≤ gb144)); have n5_ := Aside0.mk ((by rw [hg]; exact Nat.ne_of_lt (blk_lt (g := gb143) (o := .cells #[.int .i64 a0_0, .int .i64 a0_1, .int .i64 a0_2, .int .i64 a0_3, .int .i64 a0_4, .int .i64 a0_5] 41 (0, 0)) (by (with_reducible repeat (first | refine blk_drewN ?_ _ | refine blk_drew ?_ | refine blk_alloc ?_ _)); exact BK143.out)) : gb143 ≠ gb144)); have n6_ := Aside0.mk ((by rw [hg]; exact Nat.ne_of_gt (blk_lt (g := gb143) (o := .cells #[.int .i64 a0_0, .int .i64 a0_1, .int .i64 a0_2, .int .i64 a0_3, .int .i64 a0_4, .int .i64 a0_5] 41 (0, 0)) (by (with_reducible repeat (first | refine blk_drewN ?_ _ | refine blk_drew ?_ | refine blk_alloc ?_ _)); exact BK143.out)) : gb144 ≠ gb143)); clear BK143; clear HB; have BK143 := n0_; have HB := n1_; have BK144 := n2_; have GW144 := n3_; have GE144 := n4_; have NB143_144 := n5_; have NB144_143 := n6_; clear n0_ n1_ n2_ n3_ n4_ n5_ n6_; clear hb hbox hg; have hnb25 := NB143_144.out; have hnc25 := NB144_143.out; have hcz26_0 : w24.cell? ⟨gb143, 0, none⟩ = some (.int .i64 a0_0) := (blk_cell BK143.out 0).trans rfl; have hcz26_1 : w24.cell? ⟨gb143, 1, none⟩ = some (.int .i64 a0_1) := (blk_cell BK143.out 1).trans rfl; have hcz26_2 : w24.cell? ⟨gb143, 2, none⟩ = some (.int .i64 a0_2) := (blk_cell BK143.out 2).trans rfl; have hcz26_3 : w24.cell? ⟨gb143, 3, none⟩ = some (.int .i64 a0_3) := (blk_cell BK143.out 3).trans rfl; have hcz26_4 : w24.cell? ⟨gb143, 4, none⟩ = some (.int .i64 a0_4) := (blk_cell BK143.out 4).trans rfl; have hcz26_5 : w24.cell? ⟨gb143, 5, none⟩ = some (.int .i64 a0_5) := (blk_cell BK143.out 5).trans rfl; have hfz26_0 := blk_frozen BK143.out 0; have hfz26_1 := blk_frozen BK143.out 1; have hfz26_2 := blk_frozen BK143.out 2; have hfz26_3 := blk_frozen BK143.out 3; have hfz26_4 := blk_frozen BK143.out 4; have hfz26_5 := blk_frozen BK143.out 5; have hcz27_0 : w24.cell? ⟨gb144, 0, none⟩ = some (.int .i64 a1_0) := (blk_cell BK144.out 0).trans rfl; have hcz27_1 : w24.cell? ⟨gb144, 1, none⟩ = some (.int .i64 a1_1) := (blk_cell BK144.out 1).trans rfl; have hcz27_2 : w24.cell? ⟨gb144, 2, none⟩ = some (.int .i64 a1_2) := (blk_cell BK144.out 2).trans rfl; have hcz27_3 : w24.cell? ⟨gb144, 3, none⟩ = some (.int .i64 a1_3) := (blk_cell BK144.out 3).trans rfl; have hcz27_4 : w24.cell? ⟨gb144, 4, none⟩ = some (.int .i64 a1_4) := (blk_cell BK144.out 4).trans rfl; have hcz27_5 : w24.cell? ⟨gb144, 5, none⟩ = some (.int .i64 a1_5) := (blk_cell BK144.out 5).trans rfl; have hfz27_0 := blk_frozen BK144.out 0; have hfz27_1 := blk_frozen BK144.out 1; have hfz27_2 := blk_frozen BK144.out 2; have hfz27_3 := blk_frozen BK144.out 3; have hfz27_4 := blk_frozen BK144.out 4; have hfz27_5 := blk_frozen BK144.out 5))
   go_ret
   exact ⟨by first | rfl | (simp [errW_none, errW_some] <;> rfl) | (simp [*, errW_none, errW_some] <;> rfl), by repeat (first | (with_reducible first | exact HB.out | apply below_alloc | apply pw_below_drewN | apply below_drew1 | refine below_set ?_ GE143.out | refine below_set ?_ GE144.out) | exact HB.out)⟩
 rw [if_pos c5] at H
 have c5b0 : (a0_3 == a1_3) = true := beq_iff_eq.mpr c5
 have c5b1 : (a0_3 != a1_3) = false := bne_eq_false_iff_eq.mpr c5
 clear c5
 by_cases c6 : a0_4 = a1_4
 rotate_left
 · rw [if_neg c6] at H
   have c6b0 : (a0_4 == a1_4) = false := beq_eq_false_iff_ne.mpr c6
   have c6b1 : (a0_4 != a1_4) = true := bne_iff_ne.mpr c6
   obtain rfl := Option.some.inj H
   go_enter Try.func134, Try.ntmps134
   go_wp2_with (first | ((with_reducible refine gate_dst (N := 2) rfl ?_); refine box_event ?hg (N := 2) ?hd (cs := #[.int .i64 a0_0, .int .i64 a0_1, .int .i64 a0_2, .int .i64 a0_3, .int .i64 a0_4, .int .i64 a0_5]) (t := 41) ?hr ?_; (case hd => rfl); (case hg => rfl); (case hr => first | (go_simp; done) | (go_simp; rfl)); intro gb143 hg w18 hbox hb; have n0_ := Aside0.mk (below_step (by repeat (first | (with_reducible first | exact HB.out | apply below_alloc | apply pw_below_drewN | apply below_drew1) | exact HB.out)) hb); have n1_ := Aside0.mk (hbox); have n2_ := Aside0.mk ((by rw [hg]; exact (below_size (by repeat (first | (with_reducible first | exact HB.out | apply below_alloc | apply pw_below_drewN | apply below_drew1) | exact HB.out))) : w.heap.size ≤ gb143)); have n3_ := Aside0.mk ((by rw [hg]; exact (below_size (by repeat (first | (with_reducible first | exact HB.out | apply below_alloc | apply pw_below_drewN | apply below_drew1) | exact HB.out))) : w.heap.size ≤ gb143)); clear HB; have HB := n0_; have BK143 := n1_; have GW143 := n2_; have GE143 := n3_; clear n0_ n1_ n2_ n3_; clear hb hbox hg) | ((with_reducible refine gate_dst (N := 3) rfl ?_); refine box_event ?hg (N := 3) ?hd (cs := #[.int .i64 a1_0, .int .i64 a1_1, .int .i64 a1_2, .int .i64 a1_3, .int .i64 a1_4, .int .i64 a1_5]) (t := 41) ?hr ?_; (case hd => rfl); (case hg => rfl); (case hr => first | (go_simp; done) | (go_simp; rfl)); intro gb144 hg w19 hbox hb; have n0_ := Aside0.mk (blk_below (g := gb143) (o := .cells #[.int .i64 a0_0, .int .i64 a0_1, .int .i64 a0_2, .int .i64 a0_3, .int .i64 a0_4, .int .i64 a0_5] 41 (0, 0)) (by (with_reducible repeat (first | refine blk_drewN ?_ _ | refine blk_drew ?_ | refine blk_alloc ?_ _)); exact BK143.out) hb); have n1_ := Aside0.mk (below_step (by repeat (first | (with_reducible first | exact HB.out | apply below_alloc | apply pw_below_drewN | apply below_drew1 | refine below_set ?_ GE143.out) | exact HB.out)) hb); have n2_ := Aside0.mk (hbox); have n3_ := Aside0.mk ((by rw [hg]; exact (below_size (by repeat (first | (with_reducible first | exact HB.out | apply below_alloc | apply pw_below_drewN | apply below_drew1 | refine below_set ?_ GE143.out) | exact HB.out))) : w.heap.size ≤ gb144)); have n4_ := Aside0.mk ((by rw [hg]; exact (below_size (by repeat (first | (with_reducible first | exact HB.out | apply below_alloc | apply pw_below_drewN | apply below_drew1 | refine below_set ?_ GE143.out) | exact HB.out))) : w.heap.size ≤ gb144)); have n5_ := Aside0.mk ((by rw [hg]; exact Nat.ne_of_lt (blk_lt (g := gb143) (o := .cells #[.int .i64 a0_0, .int .i64 a0_1, .int .i64 a0_2, .int .i64 a0_3, .int .i64 a0_4, .int .i64 a0_5] 41 (0, 0)) (by (with_reducible repeat (first | refine blk_drewN ?_ _ | refine blk_drew ?_ | refine blk_alloc ?_ _)); exact BK143.out)) : gb143 ≠ gb144)); have n6_ := Aside0.mk ((by rw [hg]; exact Nat.ne_of_gt (blk_lt (g := gb143) (o := .cells #[.int .i64 a0_0, .int .i64 a0_1, .int .i64 a0_2, .int .i64 a0_3, .int .i64 a0_4, .int .i64 a0_5] 41 (0, 0)) (by (with_reducible repeat (first | refine blk_drewN ?_ _ | refine blk_drew ?_ | refine blk_alloc ?_ _)); exact BK143.out)) : gb144 ≠ gb143)); clear BK143; clear HB; have BK143 := n0_; have HB := n1_; have BK144 := n2_; have GW144 := n3_; have GE144 := n4_; have NB143_144 := n5_; have NB144_143 := n6_; clear n0_ n1_ n2_ n3_ n4_ n5_ n6_; clear hb hbox hg; have hnb20 := NB143_144.out; have hnc20 := NB144_143.out; have hcz21_0 : w19.cell? ⟨gb143, 0, none⟩ = some (.int .i64 a0_0) := (blk_cell BK143.out 0).trans rfl; have hcz21_1 : w19.cell? ⟨gb143, 1, none⟩ = some (.int .i64 a0_1) := (blk_cell BK143.out 1).trans rfl; have hcz21_2 : w19.cell? ⟨gb143, 2, none⟩ = some (.int .i64 a0_2) := (blk_cell BK143.out 2).trans rfl; have hcz21_3 : w19.cell? ⟨gb143, 3, none⟩ = some (.int .i64 a0_3) := (blk_cell BK143.out 3).trans rfl; have hcz21_4 : w19.cell? ⟨gb143, 4, none⟩ = some (.int .i64 a0_4) := (blk_cell BK143.out 4).trans rfl; have hcz21_5 : w19.cell? ⟨gb143, 5, none⟩ = some (.int .i64 a0_5) := (blk_cell BK143.out 5).trans rfl; have hfz21_0 := blk_frozen BK143.out 0; have hfz21_1 := blk_frozen BK143.out 1; have hfz21_2 := blk_frozen BK143.out 2; have hfz21_3 := blk_frozen BK143.out 3; have hfz21_4 := blk_frozen BK143.out 4; have hfz21_5 := blk_frozen BK143.out 5; have hcz22_0 : w19.cell? ⟨gb144, 0, none⟩ = some (.int .i64 a1_0) := (blk_cell BK144.out 0).trans rfl; have hcz22_1 : w19.cell? ⟨gb144, 1, none⟩ = some (.int .i64 a1_1) := (blk_cell BK144.out 1).trans rfl; have hcz22_2 : w19.cell? ⟨gb144, 2, none⟩ = some (.int .i64 a1_2) := (blk_cell BK144.out 2).trans rfl; have hcz22_3 : w19.cell? ⟨gb144, 3, none⟩ = some (.int .i64 a1_3) := (blk_cell BK144.out 3).trans rfl; have hcz22_4 : w19.cell? ⟨gb144, 4, none⟩ = some (.int .i64 a1_4) := (blk_cell BK144.out 4).trans rfl; have hcz22_5 : w19.cell? ⟨gb144, 5, none⟩ = some (.int .i64 a1_5) := (blk_cell BK144.out 5).trans rfl; have hfz22_0 := blk_frozen BK144.out 0; have hfz22_1 := blk_frozen BK144.out 1; have hfz22_2 := blk_frozen BK144.out 2; have hfz22_3 := blk_frozen BK144.out 3; have hfz22_4 := blk_frozen BK144.out 4; have hfz22_5 := blk_frozen BK144.out 5))
   go_ret
   exact ⟨by first | rfl | (simp [errW_none, errW_some] <;> rfl) | (simp [*, errW_none, errW_some] <;> rfl), by repeat (first | (with_reducible first | exact HB.out | apply below_alloc | apply pw_below_drewN | apply below_drew1 | refine below_set ?_ GE143.out | refine below_set ?_ GE144.out) | exact HB.out)⟩
 rw [if_pos c6] at H
 have c6b0 : (a0_4 == a1_4) = true := beq_iff_eq.mpr c6
 have c6b1 : (a0_4 != a1_4) = false := bne_eq_false_iff_eq.mpr c6
 clear c6
 by_cases c7 : a0_3 = 1
 · rw [if_pos c7] at H
   have c7b0 : (a0_3 == 1) = true := beq_iff_eq.mpr c7
   have c7b1 : (a0_3 != 1) = false := bne_eq_false_iff_eq.mpr c7
   clear c7
   obtain rfl := Option.some.inj H
   go_enter Try.func134, Try.ntmps134
   go_wp2_with (first | ((with_reducible refine gate_dst (N := 2) rfl ?_); refine box_event ?hg (N := 2) ?hd (cs := #[.int .i64 a0_0, .int .i64 a0_1, .int .i64 a0_2, .int .i64 a0_3, .int .i64 a0_4, .int .i64 a0_5]) (t := 41) ?hr ?_; (case hd => rfl); (case hg => rfl); (case hr => first | (go_simp; done) | (go_simp; rfl)); intro gb143 hg w8 hbox hb; have n0_ := Aside0.mk (below_step (by repeat (first | (with_reducible first | exact HB.out | apply below_alloc | apply pw_below_drewN | apply below_drew1) | exact HB.out)) hb); have n1_ := Aside0.mk (hbox); have n2_ := Aside0.mk ((by rw [hg]; exact (below_size (by repeat (first | (with_reducible first | exact HB.out | apply below_alloc | apply pw_below_drewN | apply below_drew1) | exact HB.out))) : w.heap.size ≤ gb143)); have n3_ := Aside0.mk ((by rw [hg]; exact (below_size (by repeat (first | (with_reducible first | exact HB.out | apply below_alloc | apply pw_below_drewN | apply below_drew1) | exact HB.out))) : w.heap.size ≤ gb143)); clear HB; have HB := n0_; have BK143 := n1_; have GW143 := n2_; have GE143 := n3_; clear n0_ n1_ n2_ n3_; clear hb hbox hg) | ((with_reducible refine gate_dst (N := 3) rfl ?_); refine box_event ?hg (N := 3) ?hd (cs := #[.int .i64 a1_0, .int .i64 a1_1, .int .i64 a1_2, .int .i64 a1_3, .int .i64 a1_4, .int .i64 a1_5]) (t := 41) ?hr ?_; (case hd => rfl); (case hg => rfl); (case hr => first | (go_simp; done) | (go_simp; rfl)); intro gb144 hg w9 hbox hb; have n0_ := Aside0.mk (blk_below (g := gb143) (o := .cells #[.int .i64 a0_0, .int .i64 a0_1, .int .i64 a0_2, .int .i64 a0_3, .int .i64 a0_4, .int .i64 a0_5] 41 (0, 0)) (by (with_reducible repeat (first | refine blk_drewN ?_ _ | refine blk_drew ?_ | refine blk_alloc ?_ _)); exact BK143.out) hb); have n1_ := Aside0.mk (below_step (by repeat (first | (with_reducible first | exact HB.out | apply below_alloc | apply pw_below_drewN | apply below_drew1 | refine below_set ?_ GE143.out) | exact HB.out)) hb); have n2_ := Aside0.mk (hbox); have n3_ := Aside0.mk ((by rw [hg]; exact (below_size (by repeat (first | (with_reducible first | exact HB.out | apply below_alloc | apply pw_below_drewN | apply below_drew1 | refine below_set ?_ GE143.out) | exact HB.out))) : w.heap.size ≤ gb144)); have n4_ := Aside0.mk ((by rw [hg]; exact (below_size (by repeat (first | (with_reducible first | exact HB.out | apply below_alloc | apply pw_below_drewN | apply below_drew1 | refine below_set ?_ GE143.out) | exact HB.out))) : w.heap.size ≤ gb144)); have n5_ := Aside0.mk ((by rw [hg]; exact Nat.ne_of_lt (blk_lt (g := gb143) (o := .cells #[.int .i64 a0_0, .int .i64 a0_1, .int .i64 a0_2, .int .i64 a0_3, .int .i64 a0_4, .int .i64 a0_5] 41 (0, 0)) (by (with_reducible repeat (first | refine blk_drewN ?_ _ | refine blk_drew ?_ | refine blk_alloc ?_ _)); exact BK143.out)) : gb143 ≠ gb144)); have n6_ := Aside0.mk ((by rw [hg]; exact Nat.ne_of_gt (blk_lt (g := gb143) (o := .cells #[.int .i64 a0_0, .int .i64 a0_1, .int .i64 a0_2, .int .i64 a0_3, .int .i64 a0_4, .int .i64 a0_5] 41 (0, 0)) (by (with_reducible repeat (first | refine blk_drewN ?_ _ | refine blk_drew ?_ | refine blk_alloc ?_ _)); exact BK143.out)) : gb144 ≠ gb143)); clear BK143; clear HB; have BK143 := n0_; have HB := n1_; have BK144 := n2_; have GW144 := n3_; have GE144 := n4_; have NB143_144 := n5_; have NB144_143 := n6_; clear n0_ n1_ n2_ n3_ n4_ n5_ n6_; clear hb hbox hg; have hnb10 := NB143_144.out; have hnc10 := NB144_143.out; have hcz11_0 : w9.cell? ⟨gb143, 0, none⟩ = some (.int .i64 a0_0) := (blk_cell BK143.out 0).trans rfl; have hcz11_1 : w9.cell? ⟨gb143, 1, none⟩ = some (.int .i64 a0_1) := (blk_cell BK143.out 1).trans rfl; have hcz11_2 : w9.cell? ⟨gb143, 2, none⟩ = some (.int .i64 a0_2) := (blk_cell BK143.out 2).trans rfl; have hcz11_3 : w9.cell? ⟨gb143, 3, none⟩ = some (.int .i64 a0_3) := (blk_cell BK143.out 3).trans rfl; have hcz11_4 : w9.cell? ⟨gb143, 4, none⟩ = some (.int .i64 a0_4) := (blk_cell BK143.out 4).trans rfl; have hcz11_5 : w9.cell? ⟨gb143, 5, none⟩ = some (.int .i64 a0_5) := (blk_cell BK143.out 5).trans rfl; have hfz11_0 := blk_frozen BK143.out 0; have hfz11_1 := blk_frozen BK143.out 1; have hfz11_2 := blk_frozen BK143.out 2; have hfz11_3 := blk_frozen BK143.out 3; have hfz11_4 := blk_frozen BK143.out 4; have hfz11_5 := blk_frozen BK143.out 5; have hcz12_0 : w9.cell? ⟨gb144, 0, none⟩ = some (.int .i64 a1_0) := (blk_cell BK144.out 0).trans rfl; have hcz12_1 : w9.cell? ⟨gb144, 1, none⟩ = some (.int .i64 a1_1) := (blk_cell BK144.out 1).trans rfl; have hcz12_2 : w9.cell? ⟨gb144, 2, none⟩ = some (.int .i64 a1_2) := (blk_cell BK144.out 2).trans rfl; have hcz12_3 : w9.cell? ⟨gb144, 3, none⟩ = some (.int .i64 a1_3) := (blk_cell BK144.out 3).trans rfl; have hcz12_4 : w9.cell? ⟨gb144, 4, none⟩ = some (.int .i64 a1_4) := (blk_cell BK144.out 4).trans rfl; have hcz12_5 : w9.cell? ⟨gb144, 5, none⟩ = some (.int .i64 a1_5) := (blk_cell BK144.out 5).trans rfl; have hfz12_0 := blk_frozen BK144.out 0; have hfz12_1 := blk_frozen BK144.out 1; have hfz12_2 := blk_frozen BK144.out 2; have hfz12_3 := blk_frozen BK144.out 3; have hfz12_4 := blk_frozen BK144.out 4; have hfz12_5 := blk_frozen BK144.out 5))
   go_ret
   exact ⟨by first | rfl | (simp [errW_none, errW_some] <;> rfl) | (simp [*, errW_none, errW_some] <;> rfl), by repeat (first | (with_reducible first | exact HB.out | apply below_alloc | apply pw_below_drewN | apply below_drew1 | refine below_set ?_ GE143.out | refine below_set ?_ GE144.out) | exact HB.out)⟩
 rw [if_neg c7] at H
 have c7b0 : (a0_3 == 1) = false := beq_eq_false_iff_ne.mpr c7
 have c7b1 : (a0_3 != 1) = true := bne_iff_ne.mpr c7
 obtain rfl := Option.some.inj H
 go_enter Try.func134, Try.ntmps134
 go_wp2_with (first | ((with_reducible refine gate_dst (N := 2) rfl ?_); refine box_event ?hg (N := 2) ?hd (cs := #[.int .i64 a0_0, .int .i64 a0_1, .int .i64 a0_2, .int .i64 a0_3, .int .i64 a0_4, .int .i64 a0_5]) (t := 41) ?hr ?_; (case hd => rfl); (case hg => rfl); (case hr => first | (go_simp; done) | (go_simp; rfl)); intro gb143 hg w13 hbox hb; have n0_ := Aside0.mk (below_step (by repeat (first | (with_reducible first | exact HB.out | apply below_alloc | apply pw_below_drewN | apply below_drew1) | exact HB.out)) hb); have n1_ := Aside0.mk (hbox); have n2_ := Aside0.mk ((by rw [hg]; exact (below_size (by repeat (first | (with_reducible first | exact HB.out | apply below_alloc | apply pw_below_drewN | apply below_drew1) | exact HB.out))) : w.heap.size ≤ gb143)); have n3_ := Aside0.mk ((by rw [hg]; exact (below_size (by repeat (first | (with_reducible first | exact HB.out | apply below_alloc | apply pw_below_drewN | apply below_drew1) | exact HB.out))) : w.heap.size ≤ gb143)); clear HB; have HB := n0_; have BK143 := n1_; have GW143 := n2_; have GE143 := n3_; clear n0_ n1_ n2_ n3_; clear hb hbox hg) | ((with_reducible refine gate_dst (N := 3) rfl ?_); refine box_event ?hg (N := 3) ?hd (cs := #[.int .i64 a1_0, .int .i64 a1_1, .int .i64 a1_2, .int .i64 a1_3, .int .i64 a1_4, .int .i64 a1_5]) (t := 41) ?hr ?_; (case hd => rfl); (case hg => rfl); (case hr => first | (go_simp; done) | (go_simp; rfl)); intro gb144 hg w14 hbox hb; have n0_ := Aside0.mk (blk_below (g := gb143) (o := .cells #[.int .i64 a0_0, .int .i64 a0_1, .int .i64 a0_2, .int .i64 a0_3, .int .i64 a0_4, .int .i64 a0_5] 41 (0, 0)) (by (with_reducible repeat (first | refine blk_drewN ?_ _ | refine blk_drew ?_ | refine blk_alloc ?_ _)); exact BK143.out) hb); have n1_ := Aside0.mk (below_step (by repeat (first | (with_reducible first | exact HB.out | apply below_alloc | apply pw_below_drewN | apply below_drew1 | refine below_set ?_ GE143.out) | exact HB.out)) hb); have n2_ := Aside0.mk (hbox); have n3_ := Aside0.mk ((by rw [hg]; exact (below_size (by repeat (first | (with_reducible first | exact HB.out | apply below_alloc | apply pw_below_drewN | apply below_drew1 | refine below_set ?_ GE143.out) | exact HB.out))) : w.heap.size ≤ gb144)); have n4_ := Aside0.mk ((by rw [hg]; exact (below_size (by repeat (first | (with_reducible first | exact HB.out | apply below_alloc | apply pw_below_drewN | apply below_drew1 | refine below_set ?_ GE143.out) | exact HB.out))) : w.heap.size ≤ gb144)); have n5_ := Aside0.mk ((by rw [hg]; exact Nat.ne_of_lt (blk_lt (g := gb143) (o := .cells #[.int .i64 a0_0, .int .i64 a0_1, .int .i64 a0_2, .int .i64 a0_3, .int .i64 a0_4, .int .i64 a0_5] 41 (0, 0)) (by (with_reducible repeat (first | refine blk_drewN ?_ _ | refine blk_drew ?_ | refine blk_alloc ?_ _)); exact BK143.out)) : gb143 ≠ gb144)); have n6_ := Aside0.mk ((by rw [hg]; exact Nat.ne_of_gt (blk_lt (g := gb143) (o := .cells #[.int .i64 a0_0, .int .i64 a0_1, .int .i64 a0_2, .int .i64 a0_3, .int .i64 a0_4, .int .i64 a0_5] 41 (0, 0)) (by (with_reducible repeat (first | refine blk_drewN ?_ _ | refine blk_drew ?_ | refine blk_alloc ?_ _)); exact BK143.out)) : gb144 ≠ gb143)); clear BK143; clear HB; have BK143 := n0_; have HB := n1_; have BK144 := n2_; have GW144 := n3_; have GE144 := n4_; have NB143_144 := n5_; have NB144_143 := n6_; clear n0_ n1_ n2_ n3_ n4_ n5_ n6_; clear hb hbox hg; have hnb15 := NB143_144.out; have hnc15 := NB144_143.out; have hcz16_0 : w14.cell? ⟨gb143, 0, none⟩ = some (.int .i64 a0_0) := (blk_cell BK143.out 0).trans rfl; have hcz16_1 : w14.cell? ⟨gb143, 1, none⟩ = some (.int .i64 a0_1) := (blk_cell BK143.out 1).trans rfl; have hcz16_2 : w14.cell? ⟨gb143, 2, none⟩ = some (.int .i64 a0_2) := (blk_cell BK143.out 2).trans rfl; have hcz16_3 : w14.cell? ⟨gb143, 3, none⟩ = some (.int .i64 a0_3) := (blk_cell BK143.out 3).trans rfl; have hcz16_4 : w14.cell? ⟨gb143, 4, none⟩ = some (.int .i64 a0_4) := (blk_cell BK143.out 4).trans rfl; have hcz16_5 : w14.cell? ⟨gb143, 5, none⟩ = some (.int .i64 a0_5) := (blk_cell BK143.out 5).trans rfl; have hfz16_0 := blk_frozen BK143.out 0; have hfz16_1 := blk_frozen BK143.out 1; have hfz16_2 := blk_frozen BK143.out 2; have hfz16_3 := blk_frozen BK143.out 3; have hfz16_4 := blk_frozen BK143.out 4; have hfz16_5 := blk_frozen BK143.out 5; have hcz17_0 : w14.cell? ⟨gb144, 0, none⟩ = some (.int .i64 a1_0) := (blk_cell BK144.out 0).trans rfl; have hcz17_1 : w14.cell? ⟨gb144, 1, none⟩ = some (.int .i64 a1_1) := (blk_cell BK144.out 1).trans rfl; have hcz17_2 : w14.cell? ⟨gb144, 2, none⟩ = some (.int .i64 a1_2) := (blk_cell BK144.out 2).trans rfl; have hcz17_3 : w14.cell? ⟨gb144, 3, none⟩ = some (.int .i64 a1_3) := (blk_cell BK144.out 3).trans rfl; have hcz17_4 : w14.cell? ⟨gb144, 4, none⟩ = some (.int .i64 a1_4) := (blk_cell BK144.out 4).trans rfl; have hcz17_5 : w14.cell? ⟨gb144, 5, none⟩ = some (.int .i64 a1_5) := (blk_cell BK144.out 5).trans rfl; have hfz17_0 := blk_frozen BK144.out 0; have hfz17_1 := blk_frozen BK144.out 1; have hfz17_2 := blk_frozen BK144.out 2; have hfz17_3 := blk_frozen BK144.out 3; have hfz17_4 := blk_frozen BK144.out 4; have hfz17_5 := blk_frozen BK144.out 5))
 go_ret
 exact ⟨by first | rfl | (simp [errW_none, errW_some] <;> rfl) | (simp [*, errW_none, errW_some] <;> rfl), by repeat (first | (with_reducible first | exact HB.out | apply below_alloc | apply pw_below_drewN | apply below_drew1 | refine below_set ?_ GE143.out | refine below_set ?_ GE144.out) | exact HB.out)⟩

end Go.Proofs.Ytafmeagfockdfaa.Rg
