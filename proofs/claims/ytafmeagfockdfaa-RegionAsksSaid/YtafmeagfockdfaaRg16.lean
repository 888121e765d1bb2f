-- Written by prn.py, a program of this session over the kit's printer. Not trusted: Lean checks it.
import Derived.Test.YtafmeagfockdfaaRg0
import Derived.Test.YtafmeagfockdfaaRg7
import Derived.Test.YtafmeagfockdfaaSq
namespace Go.Proofs.Ytafmeagfockdfaa.Rg
open Go.Proofs.Ytafmeagfockdfaa.Sq
open Go.RowKit Go.Proofs.YtafmeagfockdfaaW.PrintWords Go.Proofs.YtafmeagfockdfaaW.PrintLast Go.Proofs.YtafmeagfockdfaaW.PrintMore
attribute [local go_sem] max2_int min2_int max_two min_two max_three min_three max_four min_four   -- for this text's walks alone
set_option linter.unusedVariables false
set_option linter.unusedSimpArgs false

/-! ### flyleafref15_Find: function 41 -/
def flyleafref15_Find.l0 : Nat → List (S41) → Int → Int → Option (Int × Int × Int × Int × Int × Int × Bool)
  | 0, _, _, _ => none
  | k + 1, x0, x1, x6 => if x6 < (x0.length : Int) then (if 0 ≤ x6 then (if x1 ≥ ((rd_T41 x0 x6).f0) then (if x1 < ((rd_T41 x0 x6).f1) then (some ((rd_T41 x0 x6).f0, (rd_T41 x0 x6).f1, (rd_T41 x0 x6).f2, (rd_T41 x0 x6).f3, (rd_T41 x0 x6).f4, (rd_T41 x0 x6).f5, true)) else (flyleafref15_Find.l0 k x0 x1 (wrap64 (x6 + 1)))) else (flyleafref15_Find.l0 k x0 x1 (wrap64 (x6 + 1)))) else (none)) else (some (0, 0, 0, 0, 0, 0, false))
def flyleafref15_Find.f (k : Nat) (l0 : List (S41)) (a1 : Int) : Option (Int × Int × Int × Int × Int × Int × Bool) := flyleafref15_Find.l0 k l0 a1 0
theorem flyleafref15_Find.mono_l : ∀ k, (∀ y0 y1 y2, LeO (flyleafref15_Find.l0 k y0 y1 y2) (flyleafref15_Find.l0 (k + 1) y0 y1 y2))
  | 0 => fun _ _ _ r h => by simp [flyleafref15_Find.l0] at h
  | k + 1 => by
    have ih0 := flyleafref15_Find.mono_l k
    · intro y0 y1 y2
      unfold flyleafref15_Find.l0
      repeat' first
      | (with_reducible exact ih0 _ _ _)
      | (with_reducible exact LeO.refl _)
      | (with_reducible exact LeO.none _)
      | (with_reducible refine LeO.ite ?_ ?_)
      | (with_reducible refine LeO.bind ?_ (fun _ => ?_))
      | exact ih0 _ _ _
      | exact LeO.none _
      | refine LeO.ite ?_ ?_
      | refine LeO.bind ?_ (fun _ => ?_)
theorem flyleafref15_Find.mono : ∀ a0 a1 k, LeO (flyleafref15_Find.f k a0 a1) (flyleafref15_Find.f (k + 1) a0 a1) := by
  intro a0 a1 k
  have ih0 := flyleafref15_Find.mono_l k
  unfold flyleafref15_Find.f
  repeat' first
      | (with_reducible exact ih0 _ _ _)
      | (with_reducible exact LeO.refl _)
      | (with_reducible exact LeO.none _)
      | (with_reducible refine LeO.ite ?_ ?_)
      | (with_reducible refine LeO.bind ?_ (fun _ => ?_))
      | exact ih0 _ _ _
      | exact LeO.none _
      | refine LeO.ite ?_ ?_
      | refine LeO.bind ?_ (fun _ => ?_)
set_option maxHeartbeats 8000000 in
set_option maxRecDepth 100000 in
theorem flyleafref15_Find.calls (k : Nat) (A0 : Option Addr) (c0 : Nat) (l0 : List (S41)) (a1 : Int) (r1 : Int) (r2 : Int) (r3 : Int) (r4 : Int) (r5 : Int) (r6 : Int) (r7 : Bool) (w : World) (hr0 : Kd.C k41 w A0 l0.length l0) (hc0 : l0.length ≤ c0) (h : flyleafref15_Find.f k l0 a1 = some (r1, r2, r3, r4, r5, r6, r7)) :
    Calls Try.prog 41 #[.slice A0 l0.length c0, .int .i64 a1] w fun e w' => e = .returned (.tuple #[.agg #[.int .i64 r1, .int .i64 r2, .int .i64 r3, .int .i64 r4, .int .i64 r5, .int .i64 r6], .bool r7]) ∧ Below w.heap.size w w' := by
 have hu41 := Try.underlying41
 have HR0 := Aside0.mk hr0
 have HC0 := Aside0.mk hc0
 clear hr0 hc0
 have HB := Aside0.mk (Below.refl w.heap.size w)
 have H : (flyleafref15_Find.l0 k l0 a1 0) = some (r1, r2, r3, r4, r5, r6, r7) := h
 clear h
 have H' := Aside0.mk H
 clear H
 go_enter Try.func41, Try.ntmps41
 go_wp2_with (first | ((with_reducible refine gate_dst (N := 4) rfl ?_); refine box_event ?hg (N := 4) ?hd (cs := #[.int .i64 0, .int .i64 0, .int .i64 0, .int .i64 0, .int .i64 0, .int .i64 0]) (t := 41) ?hr ?_; (case hd => rfl); (case hg => rfl); (case hr => first | (go_simp; done) | (go_simp; rfl)); intro gb303 hg w3 hbox hb; have n0_ := Aside0.mk (below_step (by repeat (first | (with_reducible first | exact HB.out | apply below_alloc | apply pw_below_drewN | apply below_drew1) | exact HB.out)) hb); have n1_ := Aside0.mk (hbox); have n2_ := Aside0.mk ((by rw [hg]; exact (below_size (by repeat (first | (with_reducible first | exact HB.out | apply below_alloc | apply pw_below_drewN | apply below_drew1) | exact HB.out))) : w.heap.size ≤ gb303)); have n3_ := Aside0.mk ((by rw [hg]; exact (below_size (by repeat (first | (with_reducible first | exact HB.out | apply below_alloc | apply pw_below_drewN | apply below_drew1) | exact HB.out))) : w.heap.size ≤ gb303)); clear HB; have HB := n0_; have BK303 := n1_; have GW303 := n2_; have GE303 := n3_; clear n0_ n1_ n2_ n3_; clear hb hbox hg))
 go_loopg [6] k (fun kq v6 w' => ∃ (x6_1 : Int) (x304000_1 : Int) (x304001_1 : Int) (x304002_1 : Int) (x304003_1 : Int) (x304004_1 : Int) (x304005_1 : Int), v6 = .int .i64 x6_1 ∧ Aside0 (flyleafref15_Find.l0 kq l0 a1 x6_1 = some (r1, r2, r3, r4, r5, r6, r7)) ∧ Aside0 (kq ≤ k) ∧ Aside0 (w'.heap[gb303]? = some (.cells #[.int .i64 x304000_1, .int .i64 x304001_1, .int .i64 x304002_1, .int .i64 x304003_1, .int .i64 x304004_1, .int .i64 x304005_1] 41 (0, 0))) ∧ Aside0 (Below w.heap.size w w'))
 case atStart => exact ⟨(0), (0), (0), (0), (0), (0), (0), (by first | rfl | (simp; done) | (simp [*]; done)), H', ⟨Nat.le_refl _⟩, ⟨by (with_reducible repeat (first | refine blk_drewN ?_ _ | refine blk_drew ?_ | refine blk_alloc ?_ _)); exact BK303.out⟩, ⟨by repeat (first | (with_reducible first | exact HB.out | apply below_alloc | apply pw_below_drewN | apply below_drew1 | refine below_set ?_ GE303.out) | exact HB.out)⟩⟩
 case round =>
  clear H'
  try clear p2
  obtain ⟨x6_1, x304000_1, x304001_1, x304002_1, x304003_1, x304004_1, x304005_1, rfl, HA, HK1, BK303, HB⟩ := hrel
  cases gk with
  | zero => exact absurd HA.out (by simp [flyleafref15_Find.l0])
  | succ k1 =>
   have H := HA.out
   clear HA
   simp only [flyleafref15_Find.l0] at H
   by_cases c4 : x6_1 < (l0.length : Int)
   rotate_left
   · rw [if_neg c4] at H
     have c4b0 : decide (x6_1 < (l0.length : Int)) = false := decide_eq_false c4
     clear c4
     simp only [Option.some.injEq, Prod.mk.injEq] at H
     obtain ⟨rfl, rfl, rfl, rfl, rfl, rfl, rfl⟩ := H
     have hcz9_0 : wr.cell? ⟨gb303, 0, none⟩ = some (.int .i64 x304000_1) := (blk_cell BK303.out 0).trans rfl
     have hcz9_1 : wr.cell? ⟨gb303, 1, none⟩ = some (.int .i64 x304001_1) := (blk_cell BK303.out 1).trans rfl
     have hcz9_2 : wr.cell? ⟨gb303, 2, none⟩ = some (.int .i64 x304002_1) := (blk_cell BK303.out 2).trans rfl
     have hcz9_3 : wr.cell? ⟨gb303, 3, none⟩ = some (.int .i64 x304003_1) := (blk_cell BK303.out 3).trans rfl
     have hcz9_4 : wr.cell? ⟨gb303, 4, none⟩ = some (.int .i64 x304004_1) := (blk_cell BK303.out 4).trans rfl
     have hcz9_5 : wr.cell? ⟨gb303, 5, none⟩ = some (.int .i64 x304005_1) := (blk_cell BK303.out 5).trans rfl
     have hfz9_0 := blk_frozen BK303.out 0
     have hfz9_1 := blk_frozen BK303.out 1
     have hfz9_2 := blk_frozen BK303.out 2
     have hfz9_3 := blk_frozen BK303.out 3
     have hfz9_4 := blk_frozen BK303.out 4
     have hfz9_5 := blk_frozen BK303.out 5
     go_wp2
     refine bodyPost_ret (results_ct rfl _ _ gb303 41 #[.int .i64 0, .int .i64 0, .int .i64 0, .int .i64 0, .int .i64 0, .int .i64 0] (0, 0) _ rfl (by (with_reducible repeat (first | refine blk_drewN ?_ _ | refine blk_drew ?_ | refine blk_alloc ?_ _)); refine blk_put (cs := #[.int .i64 0, .int .i64 0, .int .i64 0, .int .i64 0, .int .i64 0, .int .i64 x304005_1]) ?_ 5 _ rfl; (with_reducible repeat (first | refine blk_drewN ?_ _ | refine blk_drew ?_ | refine blk_alloc ?_ _)); refine blk_put (cs := #[.int .i64 0, .int .i64 0, .int .i64 0, .int .i64 0, .int .i64 x304004_1, .int .i64 x304005_1]) ?_ 4 _ rfl; (with_reducible repeat (first | refine blk_drewN ?_ _ | refine blk_drew ?_ | refine blk_alloc ?_ _)); refine blk_put (cs := #[.int .i64 0, .int .i64 0, .int .i64 0, .int .i64 x304003_1, .int .i64 x304004_1, .int .i64 x304005_1]) ?_ 3 _ rfl; (with_reducible repeat (first | refine blk_drewN ?_ _ | refine blk_drew ?_ | refine blk_alloc ?_ _)); refine blk_put (cs := #[.int .i64 0, .int .i64 0, .int .i64 x304002_1, .int .i64 x304003_1, .int .i64 x304004_1, .int .i64 x304005_1]) ?_ 2 _ rfl; (with_reducible repeat (first | refine blk_drewN ?_ _ | refine blk_drew ?_ | refine blk_alloc ?_ _)); refine blk_put (cs := #[.int .i64 0, .int .i64 x304001_1, .int .i64 x304002_1, .int .i64 x304003_1, .int .i64 x304004_1, .int .i64 x304005_1]) ?_ 1 _ rfl; (with_reducible repeat (first | refine blk_drewN ?_ _ | refine blk_drew ?_ | refine blk_alloc ?_ _)); refine blk_put (cs := #[.int .i64 x304000_1, .int .i64 x304001_1, .int .i64 x304002_1, .int .i64 x304003_1, .int .i64 x304004_1, .int .i64 x304005_1]) ?_ 0 _ rfl; (with_reducible repeat (first | refine blk_drewN ?_ _ | refine blk_drew ?_ | refine blk_alloc ?_ _)); exact BK303.out) Try.underlying41 rfl (by kernel_rfl)) rfl ?_
     exact ⟨by first | rfl | (simp [errW_none, errW_some] <;> rfl) | (simp [*, errW_none, errW_some] <;> rfl), by repeat (first | (with_reducible first | exact HB.out | apply below_alloc | apply pw_below_drewN | apply below_drew1 | refine below_set ?_ GE303.out) | exact HB.out)⟩
   rw [if_pos c4] at H
   have c4b0 : decide (x6_1 < (l0.length : Int)) = true := decide_eq_true c4
   clear c4
   by_cases c5 : 0 ≤ x6_1
   rotate_left
   · rw [if_neg c5] at H
     exact absurd H (by simp)
   rw [if_pos c5] at H
   have c5b0 : decide (0 ≤ x6_1) = true := decide_eq_true c5
   clear c5
   by_cases c6 : a1 ≥ ((rd_T41 l0 x6_1).f0)
   rotate_left
   · rw [if_neg c6] at H
     have c6b0 : decide (((rd_T41 l0 x6_1).f0) ≤ a1) = false := decide_eq_false c6
     clear c6
     have H' := Aside0.mk H
     clear H
     have p304 : 0 ≤ (x6_1 : Int) := of_decide_eq_true (by first | (with_reducible assumption) | assumption)
     have q304 : x6_1 < (l0.length : Int) := of_decide_eq_true (by first | (with_reducible assumption) | assumption)
     obtain ⟨ad304, e304, hx304_0, hx304_1, hx304_2, hx304_3, hx304_4, hx304_5⟩ := at_T41 HR0.out x6_1 p304 q304
     cases e304
     replace hx304_0 := up_ hx304_0 HB.out
     replace hx304_1 := up_ hx304_1 HB.out
     replace hx304_2 := up_ hx304_2 HB.out
     replace hx304_3 := up_ hx304_3 HB.out
     replace hx304_4 := up_ hx304_4 HB.out
     replace hx304_5 := up_ hx304_5 HB.out
     replace p304 := eq_true p304
     replace q304 := eq_true q304
     go_wp2
     go_roundg k1
     case measure => have := HK1.out; omega
     case rel => exact ⟨(wrap64 (x6_1 + 1)), (x304000_1), (x304001_1), (x304002_1), (x304003_1), (x304004_1), (x304005_1), (by first | rfl | (simp; done) | (simp [*]; done)), H', ⟨by have := HK1.out; omega⟩, ⟨by (with_reducible repeat (first | refine blk_drewN ?_ _ | refine blk_drew ?_ | refine blk_alloc ?_ _)); exact BK303.out⟩, ⟨by repeat (first | (with_reducible first | exact HB.out | apply below_alloc | apply pw_below_drewN | apply below_drew1 | refine below_set ?_ GE303.out) | exact HB.out)⟩⟩
   rw [if_pos c6] at H
   have c6b0 : decide (((rd_T41 l0 x6_1).f0) ≤ a1) = true := decide_eq_true c6
   clear c6
   by_cases c7 : a1 < ((rd_T41 l0 x6_1).f1)
   rotate_left
   · rw [if_neg c7] at H
     have c7b0 : decide (a1 < ((rd_T41 l0 x6_1).f1)) = false := decide_eq_false c7
     clear c7
     have H' := Aside0.mk H
     clear H
     have p304 : 0 ≤ (x6_1 : Int) := of_decide_eq_true (by first | (with_reducible assumption) | assumption)
     have q304 : x6_1 < (l0.length : Int) := of_decide_eq_true (by first | (with_reducible assumption) | assumption)
     obtain ⟨ad304, e304, hx304_0, hx304_1, hx304_2, hx304_3, hx304_4, hx304_5⟩ := at_T41 HR0.out x6_1 p304 q304
     cases e304
     replace hx304_0 := up_ hx304_0 HB.out
     replace hx304_1 := up_ hx304_1 HB.out
     replace hx304_2 := up_ hx304_2 HB.out
     replace hx304_3 := up_ hx304_3 HB.out
     replace hx304_4 := up_ hx304_4 HB.out
     replace hx304_5 := up_ hx304_5 HB.out
     replace p304 := eq_true p304
     replace q304 := eq_true q304
     have p305 : 0 ≤ (x6_1 : Int) := of_decide_eq_true (by first | (with_reducible assumption) | assumption)
     have q305 : x6_1 < (l0.length : Int) := of_decide_eq_true (by first | (with_reducible assumption) | assumption)
     obtain ⟨ad305, e305, hx305_0, hx305_1, hx305_2, hx305_3, hx305_4, hx305_5⟩ := at_T41 HR0.out x6_1 p305 q305
     obtain rfl : ad304 = ad305 := (by injection e305)
     replace hx305_0 := up_ hx305_0 HB.out
     replace hx305_1 := up_ hx305_1 HB.out
     replace hx305_2 := up_ hx305_2 HB.out
     replace hx305_3 := up_ hx305_3 HB.out
     replace hx305_4 := up_ hx305_4 HB.out
     replace hx305_5 := up_ hx305_5 HB.out
     replace p305 := eq_true p305
     replace q305 := eq_true q305
     go_wp2
     go_roundg k1
     case measure => have := HK1.out; omega
     case rel => exact ⟨(wrap64 (x6_1 + 1)), (x304000_1), (x304001_1), (x304002_1), (x304003_1), (x304004_1), (x304005_1), (by first | rfl | (simp; done) | (simp [*]; done)), H', ⟨by have := HK1.out; omega⟩, ⟨by (with_reducible repeat (first | refine blk_drewN ?_ _ | refine blk_drew ?_ | refine blk_alloc ?_ _)); exact BK303.out⟩, ⟨by repeat (first | (with_reducible first | exact HB.out | apply below_alloc | apply pw_below_drewN | apply below_drew1 | refine below_set ?_ GE303.out) | exact HB.out)⟩⟩
   rw [if_pos c7] at H
   have c7b0 : decide (a1 < ((rd_T41 l0 x6_1).f1)) = true := decide_eq_true c7
   clear c7
   simp only [Option.some.injEq, Prod.mk.injEq] at H
   obtain ⟨rfl, rfl, rfl, rfl, rfl, rfl, rfl⟩ := H
   have p304 : 0 ≤ (x6_1 : Int) := of_decide_eq_true (by first | (with_reducible assumption) | assumption)
   have q304 : x6_1 < (l0.length : Int) := of_decide_eq_true (by first | (with_reducible assumption) | assumption)
   obtain ⟨ad304, e304, hx304_0, hx304_1, hx304_2, hx304_3, hx304_4, hx304_5⟩ := at_T41 HR0.out x6_1 p304 q304
   cases e304
   replace hx304_0 := up_ hx304_0 HB.out
   replace hx304_1 := up_ hx304_1 HB.out
   replace hx304_2 := up_ hx304_2 HB.out
   replace hx304_3 := up_ hx304_3 HB.out
   replace hx304_4 := up_ hx304_4 HB.out
   replace hx304_5 := up_ hx304_5 HB.out
   replace p304 := eq_true p304
   replace q304 := eq_true q304
   have p305 : 0 ≤ (x6_1 : Int) := of_decide_eq_true (by first | (with_reducible assumption) | assumption)
   have q305 : x6_1 < (l0.length : Int) := of_decide_eq_true (by first | (with_reducible assumption) | assumption)
   obtain ⟨ad305, e305, hx305_0, hx305_1, hx305_2, hx305_3, hx305_4, hx305_5⟩ := at_T41 HR0.out x6_1 p305 q305
   obtain rfl : ad304 = ad305 := (by injection e305)
   replace hx305_0 := up_ hx305_0 HB.out
   replace hx305_1 := up_ hx305_1 HB.out
   replace hx305_2 := up_ hx305_2 HB.out
   replace hx305_3 := up_ hx305_3 HB.out
   replace hx305_4 := up_ hx305_4 HB.out
   replace hx305_5 := up_ hx305_5 HB.out
   replace p305 := eq_true p305
   replace q305 := eq_true q305
   have p306 : 0 ≤ (x6_1 : Int) := of_decide_eq_true (by first | (with_reducible assumption) | assumption)
   have q306 : x6_1 < (l0.length : Int) := of_decide_eq_true (by first | (with_reducible assumption) | assumption)
   obtain ⟨ad306, e306, hx306_0, hx306_1, hx306_2, hx306_3, hx306_4, hx306_5⟩ := at_T41 HR0.out x6_1 p306 q306
   obtain rfl : ad304 = ad306 := (by injection e306)
   replace hx306_0 := up_ hx306_0 HB.out
   replace hx306_1 := up_ hx306_1 HB.out
   replace hx306_2 := up_ hx306_2 HB.out
   replace hx306_3 := up_ hx306_3 HB.out
   replace hx306_4 := up_ hx306_4 HB.out
   replace hx306_5 := up_ hx306_5 HB.out
   replace p306 := eq_true p306
   replace q306 := eq_true q306
   have hcz8_0 : wr.cell? ⟨gb303, 0, none⟩ = some (.int .i64 x304000_1) := (blk_cell BK303.out 0).trans rfl
   have hcz8_1 : wr.cell? ⟨gb303, 1, none⟩ = some (.int .i64 x304001_1) := (blk_cell BK303.out 1).trans rfl
   have hcz8_2 : wr.cell? ⟨gb303, 2, none⟩ = some (.int .i64 x304002_1) := (blk_cell BK303.out 2).trans rfl
   have hcz8_3 : wr.cell? ⟨gb303, 3, none⟩ = some (.int .i64 x304003_1) := (blk_cell BK303.out 3).trans rfl
   have hcz8_4 : wr.cell? ⟨gb303, 4, none⟩ = some (.int .i64 x304004_1) := (blk_cell BK303.out 4).trans rfl
   have hcz8_5 : wr.cell? ⟨gb303, 5, none⟩ = some (.int .i64 x304005_1) := (blk_cell BK303.out 5).trans rfl
   have hfz8_0 := blk_frozen BK303.out 0
   have hfz8_1 := blk_frozen BK303.out 1
   have hfz8_2 := blk_frozen BK303.out 2
   have hfz8_3 := blk_frozen BK303.out 3
   have hfz8_4 := blk_frozen BK303.out 4
   have hfz8_5 := blk_frozen BK303.out 5
   go_wp2
   refine bodyPost_ret (results_ct rfl _ _ gb303 41 #[.int .i64 ((rd_T41 l0 x6_1).f0), .int .i64 ((rd_T41 l0 x6_1).f1), .int .i64 ((rd_T41 l0 x6_1).f2), .int .i64 ((rd_T41 l0 x6_1).f3), .int .i64 ((rd_T41 l0 x6_1).f4), .int .i64 ((rd_T41 l0 x6_1).f5)] (0, 0) _ rfl (by (with_reducible repeat (first | refine blk_drewN ?_ _ | refine blk_drew ?_ | refine blk_alloc ?_ _)); refine blk_put (cs := #[.int .i64 ((rd_T41 l0 x6_1).f0), .int .i64 ((rd_T41 l0 x6_1).f1), .int .i64 ((rd_T41 l0 x6_1).f2), .int .i64 ((rd_T41 l0 x6_1).f3), .int .i64 ((rd_T41 l0 x6_1).f4), .int .i64 x304005_1]) ?_ 5 _ rfl; (with_reducible repeat (first | refine blk_drewN ?_ _ | refine blk_drew ?_ | refine blk_alloc ?_ _)); refine blk_put (cs := #[.int .i64 ((rd_T41 l0 x6_1).f0), .int .i64 ((rd_T41 l0 x6_1).f1), .int .i64 ((rd_T41 l0 x6_1).f2), .int .i64 ((rd_T41 l0 x6_1).f3), .int .i64 x304004_1, .int .i64 x304005_1]) ?_ 4 _ rfl; (with_reducible repeat (first | refine blk_drewN ?_ _ | refine blk_drew ?_ | refine blk_alloc ?_ _)); refine blk_put (cs := #[.int .i64 ((rd_T41 l0 x6_1).f0), .int .i64 ((rd_T41 l0 x6_1).f1), .int .i64 ((rd_T41 l0 x6_1).f2), .int .i64 x304003_1, .int .i64 x304004_1, .int .i64 x304005_1]) ?_ 3 _ rfl; (with_reducible repeat (first | refine blk_drewN ?_ _ | refine blk_drew ?_ | refine blk_alloc ?_ _)); refine blk_put (cs := #[.int .i64 ((rd_T41 l0 x6_1).f0), .int .i64 ((rd_T41 l0 x6_1).f1), .int .i64 x304002_1, .int .i64 x304003_1, .int .i64 x304004_1, .int .i64 x304005_1]) ?_ 2 _ rfl; (with_reducible repeat (first | refine blk_drewN ?_ _ | refine blk_drew ?_ | refine blk_alloc ?_ _)); refine blk_put (cs := #[.int .i64 ((rd_T41 l0 x6_1).f0), .int .i64 x304001_1, .int .i64 x304002_1, .int .i64 x304003_1, .int .i64 x304004_1, .int .i64 x304005_1]) ?_ 1 _ rfl; (with_reducible repeat (first | refine blk_drewN ?_ _ | refine blk_drew ?_ | refine blk_alloc ?_ _)); refine blk_put (cs := #[.int .i64 x304000_1, .int .i64 x304001_1, .int .i64 x304002_1, .int .i64 x304003_1, .int .i64 x304004_1, .int .i64 x304005_1]) ?_ 0 _ rfl; (with_reducible repeat (first | refine blk_drewN ?_ _ | refine blk_drew ?_ | refine blk_alloc ?_ _)); exact BK303.out) Try.underlying41 rfl (by kernel_rfl)) rfl ?_
   exact ⟨by first | rfl | (simp [errW_none, errW_some] <;> rfl) | (simp [*, errW_none, errW_some] <;> rfl), by repeat (first | (with_reducible first | exact HB.out | apply below_alloc | apply pw_below_drewN | apply below_drew1 | refine below_set ?_ GE303.out) | exact HB.out)⟩

/-! ### flyleafref15_Gap: function 42 -/
mutual
def flyleafref15_Gap.j0 : Nat → Int → Int → Int → List (S87) → Option (Int × Bool)
  | 0, _, _, _, _ => none
  | k + 1, x1, x2, x3, x10 => if x2 > 4096 then (flyleafref15_Gap.j1 k x1 4096 x3 x10) else (flyleafref15_Gap.j1 k x1 x2 x3 x10)
def flyleafref15_Gap.j1 : Nat → Int → Int → Int → List (S87) → Option (Int × Bool)
  | 0, _, _, _, _ => none
  | k + 1, x1, x2, x3, x10 => if x3 < 1 then (some (0, false)) else (flyleafref15_Gap.l0 k x2 x3 x10 x1)
def flyleafref15_Gap.l0 : Nat → Int → Int → List (S87) → Int → Option (Int × Bool)
  | 0, _, _, _, _ => none
  | k + 1, x2, x3, x10, x11 => if x11 < x2 then (flyleafref15_Gap.j3 k x2 x3 x10 x11 (decide (x3 ≤ (wrap64 (x2 - x11))))) else (flyleafref15_Gap.j3 k x2 x3 x10 x11 false)
def flyleafref15_Gap.j3 : Nat → Int → Int → List (S87) → Int → Bool → Option (Int × Bool)
  | 0, _, _, _, _, _ => none
  | k + 1, x2, x3, x10, x11, x32 => if x32 = true then (flyleafref15_Gap.l1 k x2 x3 x10 x11 true x11) else (some (0, false))
def flyleafref15_Gap.l1 : Nat → Int → Int → List (S87) → Int → Bool → Int → Option (Int × Bool)
  | 0, _, _, _, _, _, _ => none
  | k + 1, x2, x3, x10, x11, x12, x13 => if x13 < (wrap64 (x11 + x3)) then (if x12 = true then (if 0 ≤ x13 then (if x13 < (x10.length : Int) then (flyleafref15_Gap.l1 k x2 x3 x10 x11 (!((rd_T87 x10 x13).f1)) (wrap64 (x13 + 1))) else (none)) else (none)) else (flyleafref15_Gap.l1 k x2 x3 x10 x11 false (wrap64 (x13 + 1)))) else (if x12 = true then (some (x11, true)) else (flyleafref15_Gap.l0 k x2 x3 x10 (wrap64 (x11 + 1))))
end
def flyleafref15_Gap.f (k : Nat) (l0 : List (S41)) (a1 : Int) (a2 : Int) (a3 : Int) : Option (Int × Bool) := (flyleafref15_Spread.f k l0).bind fun t307 => (if a1 < 0 then (flyleafref15_Gap.j0 k 0 a2 a3 t307) else (flyleafref15_Gap.j0 k a1 a2 a3 t307))
theorem flyleafref15_Gap.mono_l : ∀ k, (∀ y0 y1 y2 y3, LeO (flyleafref15_Gap.j0 k y0 y1 y2 y3) (flyleafref15_Gap.j0 (k + 1) y0 y1 y2 y3)) ∧ (∀ y0 y1 y2 y3, LeO (flyleafref15_Gap.j1 k y0 y1 y2 y3) (flyleafref15_Gap.j1 (k + 1) y0 y1 y2 y3)) ∧ (∀ y0 y1 y2 y3, LeO (flyleafref15_Gap.l0 k y0 y1 y2 y3) (flyleafref15_Gap.l0 (k + 1) y0 y1 y2 y3)) ∧ (∀ y0 y1 y2 y3 y4, LeO (flyleafref15_Gap.j3 k y0 y1 y2 y3 y4) (flyleafref15_Gap.j3 (k + 1) y0 y1 y2 y3 y4)) ∧ (∀ y0 y1 y2 y3 y4 y5, LeO (flyleafref15_Gap.l1 k y0 y1 y2 y3 y4 y5) (flyleafref15_Gap.l1 (k + 1) y0 y1 y2 y3 y4 y5))
  | 0 => ⟨fun _ _ _ _ r h => by simp [flyleafref15_Gap.j0] at h, fun _ _ _ _ r h => by simp [flyleafref15_Gap.j1] at h, fun _ _ _ _ r h => by simp [flyleafref15_Gap.l0] at h, fun _ _ _ _ _ r h => by simp [flyleafref15_Gap.j3] at h, fun _ _ _ _ _ _ r h => by simp [flyleafref15_Gap.l1] at h⟩
  | k + 1 => by
    obtain ⟨ih0, ih1, ih2, ih3, ih4⟩ := flyleafref15_Gap.mono_l k
    refine ⟨?_, ?_, ?_, ?_, ?_⟩
    · intro y0 y1 y2 y3
      unfold flyleafref15_Gap.j0
      repeat' first
      | (with_reducible exact ih0 _ _ _ _)
      | (with_reducible exact ih1 _ _ _ _)
      | (with_reducible exact ih2 _ _ _ _)
      | (with_reducible exact ih3 _ _ _ _ _)
      | (with_reducible exact ih4 _ _ _ _ _ _)
      | (with_reducible exact flyleafref15_Spread.mono _ _)
      | (with_reducible exact LeO.refl _)
      | (with_reducible exact LeO.none _)
      | (with_reducible refine LeO.ite ?_ ?_)
      | (with_reducible refine LeO.bind ?_ (fun _ => ?_))
      | exact ih0 _ _ _ _
      | exact ih1 _ _ _ _
      | exact ih2 _ _ _ _
      | exact ih3 _ _ _ _ _
      | exact ih4 _ _ _ _ _ _
      | exact flyleafref15_Spread.mono _ _
      | exact LeO.none _
      | refine LeO.ite ?_ ?_
      | refine LeO.bind ?_ (fun _ => ?_)
    · intro y0 y1 y2 y3
      unfold flyleafref15_Gap.j1
      repeat' first
      | (with_reducible exact ih0 _ _ _ _)
      | (with_reducible exact ih1 _ _ _ _)
      | (with_reducible exact ih2 _ _ _ _)
      | (with_reducible exact ih3 _ _ _ _ _)
      | (with_reducible exact ih4 _ _ _ _ _ _)
      | (with_reducible exact flyleafref15_Spread.mono _ _)
      | (with_reducible exact LeO.refl _)
      | (with_reducible exact LeO.none _)
      | (with_reducible refine LeO.ite ?_ ?_)
      | (with_reducible refine LeO.bind ?_ (fun _ => ?_))
      | exact ih0 _ _ _ _
      | exact ih1 _ _ _ _
      | exact ih2 _ _ _ _
      | exact ih3 _ _ _ _ _
      | exact ih4 _ _ _ _ _ _
      | exact flyleafref15_Spread.mono _ _
      | exact LeO.none _
      | refine LeO.ite ?_ ?_
      | refine LeO.bind ?_ (fun _ => ?_)
    · intro y0 y1 y2 y3
      unfold flyleafref15_Gap.l0
      repeat' first
      | (with_reducible exact ih0 _ _ _ _)
      | (with_reducible exact ih1 _ _ _ _)
      | (with_reducible exact ih2 _ _ _ _)
      | (with_reducible exact ih3 _ _ _ _ _)
      | (with_reducible exact ih4 _ _ _ _ _ _)
      | (with_reducible exact flyleafref15_Spread.mono _ _)
      | (with_reducible exact LeO.refl _)
      | (with_reducible exact LeO.none _)
      | (with_reducible refine LeO.ite ?_ ?_)
      | (with_reducible refine LeO.bind ?_ (fun _ => ?_))
      | exact ih0 _ _ _ _
      | exact ih1 _ _ _ _
      | exact ih2 _ _ _ _
      | exact ih3 _ _ _ _ _
      | exact ih4 _ _ _ _ _ _
      | exact flyleafref15_Spread.mono _ _
      | exact LeO.none _
      | refine LeO.ite ?_ ?_
      | refine LeO.bind ?_ (fun _ => ?_)
    · intro y0 y1 y2 y3 y4
      unfold flyleafref15_Gap.j3
      repeat' first
      | (with_reducible exact ih0 _ _ _ _)
      | (with_reducible exact ih1 _ _ _ _)
      | (with_reducible exact ih2 _ _ _ _)
      | (with_reducible exact ih3 _ _ _ _ _)
      | (with_reducible exact ih4 _ _ _ _ _ _)
      | (with_reducible exact flyleafref15_Spread.mono _ _)
      | (with_reducible exact LeO.refl _)
      | (with_reducible exact LeO.none _)
      | (with_reducible refine LeO.ite ?_ ?_)
      | (with_reducible refine LeO.bind ?_ (fun _ => ?_))
      | exact ih0 _ _ _ _
      | exact ih1 _ _ _ _
      | exact ih2 _ _ _ _
      | exact ih3 _ _ _ _ _
      | exact ih4 _ _ _ _ _ _
      | exact flyleafref15_Spread.mono _ _
      | exact LeO.none _
      | refine LeO.ite ?_ ?_
      | refine LeO.bind ?_ (fun _ => ?_)
    · intro y0 y1 y2 y3 y4 y5
      unfold flyleafref15_Gap.l1
      repeat' first
      | (with_reducible exact ih0 _ _ _ _)
      | (with_reducible exact ih1 _ _ _ _)
      | (with_reducible exact ih2 _ _ _ _)
      | (with_reducible exact ih3 _ _ _ _ _)
      | (with_reducible exact ih4 _ _ _ _ _ _)
      | (with_reducible exact flyleafref15_Spread.mono _ _)
      | (with_reducible exact LeO.refl _)
      | (with_reducible exact LeO.none _)
      | (with_reducible refine LeO.ite ?_ ?_)
      | (with_reducible refine LeO.bind ?_ (fun _ => ?_))
      | exact ih0 _ _ _ _
      | exact ih1 _ _ _ _
      | exact ih2 _ _ _ _
      | exact ih3 _ _ _ _ _
      | exact ih4 _ _ _ _ _ _
      | exact flyleafref15_Spread.mono _ _
      | exact LeO.none _
      | refine LeO.ite ?_ ?_
      | refine LeO.bind ?_ (fun _ => ?_)
theorem flyleafref15_Gap.mono : ∀ a0 a1 a2 a3 k, LeO (flyleafref15_Gap.f k a0 a1 a2 a3) (flyleafref15_Gap.f (k + 1) a0 a1 a2 a3) := by
  intro a0 a1 a2 a3 k
  obtain ⟨ih0, ih1, ih2, ih3, ih4⟩ := flyleafref15_Gap.mono_l k
  unfold flyleafref15_Gap.f
  repeat' first
      | (with_reducible exact ih0 _ _ _ _)
      | (with_reducible exact ih1 _ _ _ _)
      | (with_reducible exact ih2 _ _ _ _)
      | (with_reducible exact ih3 _ _ _ _ _)
      | (with_reducible exact ih4 _ _ _ _ _ _)
      | (with_reducible exact flyleafref15_Spread.mono _ _)
      | (with_reducible exact LeO.refl _)
      | (with_reducible exact LeO.none _)
      | (with_reducible refine LeO.ite ?_ ?_)
      | (with_reducible refine LeO.bind ?_ (fun _ => ?_))
      | exact ih0 _ _ _ _
      | exact ih1 _ _ _ _
      | exact ih2 _ _ _ _
      | exact ih3 _ _ _ _ _
      | exact ih4 _ _ _ _ _ _
      | exact flyleafref15_Spread.mono _ _
      | exact LeO.none _
      | refine LeO.ite ?_ ?_
      | refine LeO.bind ?_ (fun _ => ?_)
set_option maxHeartbeats 8000000 in
set_option maxRecDepth 100000 in
theorem flyleafref15_Gap.calls (k : Nat) (A0 : Option Addr) (c0 : Nat) (l0 : List (S41)) (a1 : Int) (a2 : Int) (a3 : Int) (r1 : Int) (r2 : Bool) (w : World) (hr0 : Kd.C k41 w A0 l0.length l0) (hc0 : l0.length ≤ c0) (h : flyleafref15_Gap.f k l0 a1 a2 a3 = some (r1, r2)) :
    Calls Try.prog 42 #[.slice A0 l0.length c0, .int .i64 a1, .int .i64 a2, .int .i64 a3] w fun e w' => e = .returned (.tuple #[.int .i64 r1, .bool r2]) ∧ Below w.heap.size w w' := by
 have HR0 := Aside0.mk hr0
 have HC0 := Aside0.mk hc0
 clear hr0 hc0
 have HB := Aside0.mk (Below.refl w.heap.size w)
 have H : ((flyleafref15_Spread.f k l0).bind fun t307 => (if a1 < 0 then (flyleafref15_Gap.j0 k 0 a2 a3 t307) else (flyleafref15_Gap.j0 k a1 a2 a3 t307))) = some (r1, r2) := h
 clear h
 replace H := Option.bind_eq_some_iff.mp H
 obtain ⟨t307, A50, H⟩ := H
 replace H : (if a1 < 0 then (flyleafref15_Gap.j0 k 0 a2 a3 t307) else (flyleafref15_Gap.j0 k a1 a2 a3 t307)) = some (r1, r2) := H
 have A5 := Aside0.mk A50
 clear A50
 have HC6 := Aside0.mk H
 clear H
 go_enter Try.func42, Try.ntmps42
 go_upto_if 17 with (first | ((with_reducible refine gate_callee (f := 44) rfl ?_); refine goesL_ (some 15) rfl rfl Try.func44 (by kernel_rfl) rfl #[.slice A0 l0.length c0] rfl (by (try simp only [List.map_toArray, List.map_cons, List.map_nil]); first | done | rfl | (simp only [List.length_drop, List.length_take]; rfl)) ?_; (with_reducible refine (flyleafref15_Spread.calls k _ _ l0 t307 _ ?side1 ?side2 A5.out).mono ?_); (case side1 => repeat (first | exact HR0.out | (with_reducible refine Kd.C_alloc ?_ _) | (with_reducible refine Kd.C_drewN ?_ _) | (with_reducible refine Kd.C_drew ?_))); (case side2 => exact HC0.out); rintro e w7 ⟨v308, rfl, ho0, hb⟩; refine ⟨_, rfl, ?_⟩; have n0_ := Aside0.mk (Kd.R_lower ho0 (below_size (by repeat (first | (with_reducible first | exact HB.out | apply below_alloc | apply pw_below_drewN | apply below_drew1) | exact HB.out)))); have n1_ := Aside0.mk (below_step (by repeat (first | (with_reducible first | exact HB.out | apply below_alloc | apply pw_below_drewN | apply below_drew1) | exact HB.out)) hb); clear HB; have HO309 := n0_; have HB := n1_; clear n0_ n1_; (try clear hb); (try clear hb2); (try clear hk); (try clear hi); (try clear ho0)))
 (try simp only [Act.put, List.setIfInBounds_toArray, List.set_cons_zero, List.set_cons_succ])
 go_cut [1] (fun v1 wc => ∃ (kq : Nat) (x1_5 : Int), v1 = .int .i64 x1_5 ∧ Aside0 (flyleafref15_Gap.j0 kq x1_5 a2 a3 t307 = some (r1, r2)) ∧ Aside0 (kq ≤ k) ∧ Aside0 (Kd.R k87 87 wc w.heap.size (fun _ => True) v308 t307) ∧ Aside0 (Below w.heap.size w wc))
 case first =>
  have H := HC6.out
  clear HC6
  by_cases c8 : a1 < 0
  · rw [if_pos c8] at H
    have c8b0 : decide (a1 < 0) = true := decide_eq_true c8
    clear c8
    (first | rw [c8b0] | (simp only [i64_w, i32_w]; rw [c8b0]) | skip)
    have H' := Aside0.mk H
    clear H
    go_wp2
    go_meet
    case rel => exact ⟨_, (0), (by first | rfl | (simp; done) | (simp [*]; done)), H', ⟨by first | omega | exact Nat.le_refl _⟩, ⟨by (with_reducible repeat (first | apply Kd.R_alloc | apply Kd.R_drewN | apply Kd.R_drew)); exact HO309.out⟩, ⟨by repeat (first | (with_reducible first | exact HB.out | apply below_alloc | apply pw_below_drewN | apply below_drew1) | exact HB.out)⟩⟩
  rw [if_neg c8] at H
  have c8b0 : decide (a1 < 0) = false := decide_eq_false c8
  clear c8
  (first | rw [c8b0] | (simp only [i64_w, i32_w]; rw [c8b0]) | skip)
  have H' := Aside0.mk H
  clear H
  go_wp2
  go_meet
  case rel => exact ⟨_, (a1), (by first | rfl | (simp; done) | (simp [*]; done)), H', ⟨by first | omega | exact Nat.le_refl _⟩, ⟨by (with_reducible repeat (first | apply Kd.R_alloc | apply Kd.R_drewN | apply Kd.R_drew)); exact HO309.out⟩, ⟨by repeat (first | (with_reducible first | exact HB.out | apply below_alloc | apply pw_below_drewN | apply below_drew1) | exact HB.out)⟩⟩
 case rest =>
  clear HC6
  try clear p2
  try clear c4
  try clear c8
  try clear c8b0
  obtain ⟨kq, x1_5, rfl, HA, HJ5, HO_10, HB⟩ := hcut
  cases kq with
  | zero => exact absurd HA.out (by simp [flyleafref15_Gap.j0])
  | succ kj5 =>
   have H := HA.out
   clear HA
   simp only [flyleafref15_Gap.j0] at H
   have HC9 := Aside0.mk H
   clear H
   go_upto_if 19 with (fail)
   go_cut [2] (fun v2 wc => ∃ (kq : Nat) (x2_8 : Int), v2 = .int .i64 x2_8 ∧ Aside0 (flyleafref15_Gap.j1 kq x1_5 x2_8 a3 t307 = some (r1, r2)) ∧ Aside0 (kq ≤ kj5) ∧ Aside0 (Kd.R k87 87 wc w.heap.size (fun _ => True) v308 t307) ∧ Aside0 (Below w.heap.size w wc))
   case first =>
    have H := HC9.out
    clear HC9
    by_cases c10 : a2 > 4096
    · rw [if_pos c10] at H
      have c10b0 : decide (4096 < a2) = true := decide_eq_true c10
      clear c10
      (first | rw [c10b0] | (simp only [i64_w, i32_w]; rw [c10b0]) | skip)
      have H' := Aside0.mk H
      clear H
      go_wp2
      go_meet
      case rel => exact ⟨_, (4096), (by first | rfl | (simp; done) | (simp [*]; done)), H', ⟨by have := HJ5.out; first | omega | exact Nat.le_refl _⟩, ⟨by (with_reducible repeat (first | apply Kd.R_alloc | apply Kd.R_drewN | apply Kd.R_drew)); exact HO_10.out⟩, ⟨by repeat (first | (with_reducible first | exact HB.out | apply below_alloc | apply pw_below_drewN | apply below_drew1) | exact HB.out)⟩⟩
    rw [if_neg c10] at H
    have c10b0 : decide (4096 < a2) = false := decide_eq_false c10
    clear c10
    (first | rw [c10b0] | (simp only [i64_w, i32_w]; rw [c10b0]) | skip)
    have H' := Aside0.mk H
    clear H
    go_wp2
    go_meet
    case rel => exact ⟨_, (a2), (by first | rfl | (simp; done) | (simp [*]; done)), H', ⟨by have := HJ5.out; first | omega | exact Nat.le_refl _⟩, ⟨by (with_reducible repeat (first | apply Kd.R_alloc | apply Kd.R_drewN | apply Kd.R_drew)); exact HO_10.out⟩, ⟨by repeat (first | (with_reducible first | exact HB.out | apply below_alloc | apply pw_below_drewN | apply below_drew1) | exact HB.out)⟩⟩
   case rest =>
    clear HC9
    try clear c1
    try clear p2
    try clear c4
    try clear c8
    try clear c8b0
    try clear c10
    try clear c10b0
    try clear p2
    obtain ⟨kq, x2_8, rfl, HA, HJ8, HO_10, HB⟩ := hcut
    cases kq with
    | zero => exact absurd HA.out (by simp [flyleafref15_Gap.j1])
    | succ kj8 =>
     have H := HA.out
     clear HA
     simp only [flyleafref15_Gap.j1] at H
     by_cases c11 : a3 < 1
     · rw [if_pos c11] at H
       have c11b0 : decide (a3 < 1) = true := decide_eq_true c11
       clear c11
       simp only [Option.some.injEq, Prod.mk.injEq] at H
       obtain ⟨rfl, rfl⟩ := H
       go_wp2
       go_ret2
       exact ⟨by first | rfl | (simp [errW_none, errW_some] <;> rfl) | (simp [*, errW_none, errW_some] <;> rfl), by repeat (first | (with_reducible first | exact HB.out | apply below_alloc | apply pw_below_drewN | apply below_drew1) | exact HB.out)⟩
     rw [if_neg c11] at H
     have c11b0 : decide (a3 < 1) = false := decide_eq_false c11
     clear c11
     have H' := Aside0.mk H
     clear H
     go_wp2
     go_loopg [11] kj8 (fun kq v11 w' => ∃ (x11_3 : Int), v11 = .int .i64 x11_3 ∧ Aside0 (flyleafref15_Gap.l0 kq x2_8 a3 t307 x11_3 = some (r1, r2)) ∧ Aside0 (kq ≤ kj8) ∧ Aside0 (Kd.R k87 87 w' w.heap.size (fun _ => True) v308 t307) ∧ Aside0 (Below w.heap.size w w'))
     case atStart => exact ⟨(x1_5), (by first | rfl | (simp; done) | (simp [*]; done)), H', ⟨Nat.le_refl _⟩, ⟨by (with_reducible repeat (first | apply Kd.R_alloc | apply Kd.R_drewN | apply Kd.R_drew)); exact HO_10.out⟩, ⟨by repeat (first | (with_reducible first | exact HB.out | apply below_alloc | apply pw_below_drewN | apply below_drew1) | exact HB.out)⟩⟩
     case round =>
      clear H'
      try clear c1
      try clear p2
      try clear c4
      try clear c8
      try clear c8b0
      try clear c10
      try clear c10b0
      try clear c11
      try clear c11b0
      try clear p2
      obtain ⟨x11_3, rfl, HA, HK3, HO_10, HB⟩ := hrel
      cases gk with
      | zero => exact absurd HA.out (by simp [flyleafref15_Gap.l0])
      | succ k3 =>
       have H := HA.out
       clear HA
       simp only [flyleafref15_Gap.l0] at H
       have HC12 := Aside0.mk H
       clear H
       go_upto_region 9 with (fail)
       go_cut [32] (fun v32 wc => ∃ (kq : Nat) (x32_11 : Bool), v32 = .bool x32_11 ∧ Aside0 (flyleafref15_Gap.j3 kq x2_8 a3 t307 x11_3 x32_11 = some (r1, r2)) ∧ Aside0 (kq ≤ k3) ∧ Aside0 (Kd.R k87 87 wc w.heap.size (fun _ => True) v308 t307) ∧ Aside0 (Below w.heap.size w wc))
       case first =>
        have H := HC12.out
        clear HC12
        by_cases c13 : x11_3 < x2_8
        rotate_left
        · rw [if_neg c13] at H
          have c13b0 : decide (x11_3 < x2_8) = false := decide_eq_false c13
          clear c13
          (first | rw [c13b0] | (simp only [i64_w, i32_w]; rw [c13b0]) | skip)
          have H' := Aside0.mk H
          clear H
          go_wp2
          go_meet
          case rel => exact ⟨_, (false), (by first | rfl | (simp; done) | (simp [*]; done)), H', ⟨by have := HJ5.out; have := HJ8.out; have := HK3.out; first | omega | exact Nat.le_refl _⟩, ⟨by (with_reducible repeat (first | apply Kd.R_alloc | apply Kd.R_drewN | apply Kd.R_drew)); exact HO_10.out⟩, ⟨by repeat (first | (with_reducible first | exact HB.out | apply below_alloc | apply pw_below_drewN | apply below_drew1) | exact HB.out)⟩⟩
        rw [if_pos c13] at H
        have c13b0 : decide (x11_3 < x2_8) = true := decide_eq_true c13
        clear c13
        (first | rw [c13b0] | (simp only [i64_w, i32_w]; rw [c13b0]) | skip)
        have H' := Aside0.mk H
        clear H
        go_wp2
        go_meet
        case rel => exact ⟨_, (decide (a3 ≤ (wrap64 (x2_8 - x11_3)))), (by first | rfl | (simp; done) | (simp [*]; done)), H', ⟨by have := HJ5.out; have := HJ8.out; have := HK3.out; first | omega | exact Nat.le_refl _⟩, ⟨by (with_reducible repeat (first | apply Kd.R_alloc | apply Kd.R_drewN | apply Kd.R_drew)); exact HO_10.out⟩, ⟨by repeat (first | (with_reducible first | exact HB.out | apply below_alloc | apply pw_below_drewN | apply below_drew1) | exact HB.out)⟩⟩
       case rest =>
        clear HC12
        try clear c1
        try clear p2
        try clear c4
        try clear p6
        try clear c8
        try clear c8b0
        try clear c10
        try clear c10b0
        try clear c11
        try clear c11b0
        try clear c13
        try clear c13b0
        try clear p2
        obtain ⟨kq, x32_11, rfl, HA, HJ11, HO_10, HB⟩ := hcut
        cases kq with
        | zero => exact absurd HA.out (by simp [flyleafref15_Gap.j3])
        | succ kj11 =>
         have H := HA.out
         clear HA
         simp only [flyleafref15_Gap.j3] at H
         by_cases c14 : x32_11 = true
         rotate_left
         · replace c14 := Bool.eq_false_iff.mpr c14
           subst c14
           have H1 : (some (0, false)) = some (r1, r2) := by rw [if_neg (show ¬ (false = true) by decide)] at H; exact H
           clear H
           have H := H1
           clear H1
           simp only [Option.some.injEq, Prod.mk.injEq] at H
           obtain ⟨rfl, rfl⟩ := H
           go_wp2
           go_ret2
           exact ⟨by first | rfl | (simp [errW_none, errW_some] <;> rfl) | (simp [*, errW_none, errW_some] <;> rfl), by repeat (first | (with_reducible first | exact HB.out | apply below_alloc | apply pw_below_drewN | apply below_drew1) | exact HB.out)⟩
         subst c14
         have H1 : (flyleafref15_Gap.l1 kj11 x2_8 a3 t307 x11_3 true x11_3) = some (r1, r2) := by rw [if_pos rfl] at H; exact H
         clear H
         have H := H1
         clear H1
         have H' := Aside0.mk H
         clear H
         go_wp2
         go_loopg [12, 13] kj11 (fun kq v12 v13 w' => ∃ (x12_5 : Bool) (x13_5 : Int), v12 = .bool x12_5 ∧ v13 = .int .i64 x13_5 ∧ Aside0 (flyleafref15_Gap.l1 kq x2_8 a3 t307 x11_3 x12_5 x13_5 = some (r1, r2)) ∧ Aside0 (kq ≤ kj11) ∧ Aside0 (Kd.R k87 87 w' w.heap.size (fun _ => True) v308 t307) ∧ Aside0 (Below w.heap.size w w'))
         case atStart => exact ⟨(true), (x11_3), (by first | rfl | (simp; done) | (simp [*]; done)), (by first | rfl | (simp; done) | (simp [*]; done)), H', ⟨Nat.le_refl _⟩, ⟨by (with_reducible repeat (first | apply Kd.R_alloc | apply Kd.R_drewN | apply Kd.R_drew)); exact HO_10.out⟩, ⟨by repeat (first | (with_reducible first | exact HB.out | apply below_alloc | apply pw_below_drewN | apply below_drew1) | exact HB.out)⟩⟩
         case round =>
          clear H'
          try clear c1
          try clear p2
          try clear c4
          try clear p6
          try clear c8
          try clear c8b0
          try clear c10
          try clear c10b0
          try clear c11
          try clear c11b0
          try clear c13
          try clear c13b0
          try clear c14
          try clear p2
          try clear p6
          obtain ⟨x12_5, x13_5, rfl, rfl, HA, HK5, HO_10, HB⟩ := hrel
          cases gk with
          | zero => exact absurd HA.out (by simp [flyleafref15_Gap.l1])
          | succ k5 =>
           have H := HA.out
           clear HA
           simp only [flyleafref15_Gap.l1] at H
           by_cases c15 : x13_5 < (wrap64 (x11_3 + a3))
           rotate_left
           · rw [if_neg c15] at H
             have c15b0 : decide (x13_5 < (wrap64 (x11_3 + a3))) = false := decide_eq_false c15
             clear c15
             by_cases c20 : x12_5 = true
             · subst c20
               have H1 : (some (x11_3, true)) = some (r1, r2) := by rw [if_pos rfl] at H; exact H
               clear H
               have H := H1
               clear H1
               simp only [Option.some.injEq, Prod.mk.injEq] at H
               obtain ⟨rfl, rfl⟩ := H
               go_wp2
               go_ret2
               exact ⟨by first | rfl | (simp [errW_none, errW_some] <;> rfl) | (simp [*, errW_none, errW_some] <;> rfl), by repeat (first | (with_reducible first | exact HB.out | apply below_alloc | apply pw_below_drewN | apply below_drew1) | exact HB.out)⟩
             replace c20 := Bool.eq_false_iff.mpr c20
             subst c20
             have H1 : (flyleafref15_Gap.l0 k5 x2_8 a3 t307 (wrap64 (x11_3 + 1))) = some (r1, r2) := by rw [if_neg (show ¬ (false = true) by decide)] at H; exact H
             clear H
             have H := H1
             clear H1
             have H' := Aside0.mk H
             clear H
             go_wp2
             go_roundg k5
             case measure => have := HJ5.out; have := HJ8.out; have := HK3.out; have := HJ11.out; have := HK5.out; omega
             case rel => exact ⟨(wrap64 (x11_3 + 1)), (by first | rfl | (simp; done) | (simp [*]; done)), H', ⟨by have := HJ5.out; have := HJ8.out; have := HK3.out; have := HJ11.out; have := HK5.out; omega⟩, ⟨by (with_reducible repeat (first | apply Kd.R_alloc | apply Kd.R_drewN | apply Kd.R_drew)); exact HO_10.out⟩, ⟨by repeat (first | (with_reducible first | exact HB.out | apply below_alloc | apply pw_below_drewN | apply below_drew1) | exact HB.out)⟩⟩
           rw [if_pos c15] at H
           have c15b0 : decide (x13_5 < (wrap64 (x11_3 + a3))) = true := decide_eq_true c15
           clear c15
           by_cases c16 : x12_5 = true
           rotate_left
           · replace c16 := Bool.eq_false_iff.mpr c16
             subst c16
             have H1 : (flyleafref15_Gap.l1 k5 x2_8 a3 t307 x11_3 false (wrap64 (x13_5 + 1))) = some (r1, r2) := by rw [if_neg (show ¬ (false = true) by decide)] at H; exact H
             clear H
             have H := H1
             clear H1
             have H' := Aside0.mk H
             clear H
             go_wp2
             go_roundg k5
             case measure => have := HJ5.out; have := HJ8.out; have := HK3.out; have := HJ11.out; have := HK5.out; omega
             case rel => exact ⟨(false), (wrap64 (x13_5 + 1)), (by first | rfl | (simp; done) | (simp [*]; done)), (by first | rfl | (simp; done) | (simp [*]; done)), H', ⟨by have := HJ5.out; have := HJ8.out; have := HK3.out; have := HJ11.out; have := HK5.out; omega⟩, ⟨by (with_reducible repeat (first | apply Kd.R_alloc | apply Kd.R_drewN | apply Kd.R_drew)); exact HO_10.out⟩, ⟨by repeat (first | (with_reducible first | exact HB.out | apply below_alloc | apply pw_below_drewN | apply below_drew1) | exact HB.out)⟩⟩
           subst c16
           have H1 : (if 0 ≤ x13_5 then (if x13_5 < (t307.length : Int) then (flyleafref15_Gap.l1 k5 x2_8 a3 t307 x11_3 (!((rd_T87 t307 x13_5).f1)) (wrap64 (x13_5 + 1))) else (none)) else (none)) = some (r1, r2) := by rw [if_pos rfl] at H; exact H
           clear H
           have H := H1
           clear H1
           by_cases c17 : 0 ≤ x13_5
           rotate_left
           · rw [if_neg c17] at H
             exact absurd H (by simp)
           rw [if_pos c17] at H
           have c17b0 : decide (0 ≤ x13_5) = true := decide_eq_true c17
           clear c17
           by_cases c18 : x13_5 < (t307.length : Int)
           rotate_left
           · rw [if_neg c18] at H
             exact absurd H (by simp)
           rw [if_pos c18] at H
           have c18b0 : decide (x13_5 < (t307.length : Int)) = true := decide_eq_true c18
           clear c18
           have H' := Aside0.mk H
           clear H
           obtain ⟨Ao19, co19, eo19⟩ := Kd.R_slice HO_10.out
           subst eo19
           have p310 : 0 ≤ (x13_5 : Int) := of_decide_eq_true (by first | (with_reducible assumption) | assumption)
           have q310 : x13_5 < (t307.length : Int) := of_decide_eq_true (by first | (with_reducible assumption) | assumption)
           obtain ⟨ad310, e310, hx310_0, hx310_1, hx310_2, hx310_3, hx310_4, hx310_5, hx310_6⟩ := at_T87 (Kd.R_reads' HO_10.out).2.2 x13_5 p310 q310
           cases e310
           replace p310 := eq_true p310
           replace q310 := eq_true q310
           go_wp2
           go_roundg k5
           case measure => have := HJ5.out; have := HJ8.out; have := HK3.out; have := HJ11.out; have := HK5.out; omega
           case rel => exact ⟨(!((rd_T87 t307 x13_5).f1)), (wrap64 (x13_5 + 1)), (by first | rfl | (simp; done) | (simp [*]; done)), (by first | rfl | (simp; done) | (simp [*]; done)), H', ⟨by have := HJ5.out; have := HJ8.out; have := HK3.out; have := HJ11.out; have := HK5.out; omega⟩, ⟨by (with_reducible repeat (first | apply Kd.R_alloc | apply Kd.R_drewN | apply Kd.R_drew)); exact HO_10.out⟩, ⟨by repeat (first | (with_reducible first | exact HB.out | apply below_alloc | apply pw_below_drewN | apply below_drew1) | exact HB.out)⟩⟩

/-! ### flyleafref15_Key: function 43 -/
def flyleafref15_Key.f (a0_0 : Int) (a0_1 : Int) (a0_2 : Int) (a0_3 : Int) (a0_4 : Int) (a0_5 : Int) (a1 : Int) : Option (Int × Int × Bool) := if a0_3 = 1 then (if a1 < a0_0 then (some (0, 0, false)) else (if a1 ≥ a0_1 then (some (0, 0, false)) else (some (a0_4, wrap64 ((wrap64 (a0_5 + a1)) - a0_0), true)))) else (some (0, 0, false))
set_option maxHeartbeats 8000000 in
set_option maxRecDepth 100000 in
theorem flyleafref15_Key.calls (a0_0 : Int) (a0_1 : Int) (a0_2 : Int) (a0_3 : Int) (a0_4 : Int) (a0_5 : Int) (a1 : Int) (r1 : Int) (r2 : Int) (r3 : Bool) (w : World) (h : flyleafref15_Key.f a0_0 a0_1 a0_2 a0_3 a0_4 a0_5 a1 = some (r1, r2, r3)) :
    Calls Try.prog 43 #[.agg #[.int .i64 a0_0, .int .i64 a0_1, .int .i64 a0_2, .int .i64 a0_3, .int .i64 a0_4, .int .i64 a0_5], .int .i64 a1] w fun e w' => e = .returned (.tuple #[.agg #[.int .i64 r1, .int .i64 r2], .bool r3]) ∧ Below w.heap.size w w' := by
 have hu41 := Try.underlying41
 have hu77 := Try.underlying77
 have HB := Aside0.mk (Below.refl w.heap.size w)
 have H : (if a0_3 = 1 then (if a1 < a0_0 then (some (0, 0, false)) else (if a1 ≥ a0_1 then (some (0, 0, false)) else (some (a0_4, wrap64 ((wrap64 (a0_5 + a1)) - a0_0), true)))) else (some (0, 0, false))) = some (r1, r2, r3) := h
 clear h
 by_cases c3 : a0_3 = 1
 rotate_left
 · rw [if_neg c3] at H
   have c3b0 : (a0_3 == 1) = false := beq_eq_false_iff_ne.mpr c3
   have c3b1 : (a0_3 != 1) = true := bne_iff_ne.mpr c3
   simp only [Option.some.injEq, Prod.mk.injEq] at H
   obtain ⟨rfl, rfl, rfl⟩ := H
   go_enter Try.func43, Try.ntmps43
   go_wp2_with (first | ((with_reducible refine gate_dst (N := 2) rfl ?_); refine box_event ?hg (N := 2) ?hd (cs := #[.int .i64 a0_0, .int .i64 a0_1, .int .i64 a0_2, .int .i64 a0_3, .int .i64 a0_4, .int .i64 a0_5]) (t := 41) ?hr ?_; (case hd => rfl); (case hg => rfl); (case hr => first | (go_simp; done) | (go_simp; rfl)); intro gb311 hg w21 hbox hb; have n0_ := Aside0.mk (below_step (by repeat (first | (with_reducible first | exact HB.out | apply below_alloc | apply pw_below_drewN | apply below_drew1) | exact HB.out)) hb); have n1_ := Aside0.mk (hbox); have n2_ := Aside0.mk ((by rw [hg]; exact (below_size (by repeat (first | (with_reducible first | exact HB.out | apply below_alloc | apply pw_below_drewN | apply below_drew1) | exact HB.out))) : w.heap.size ≤ gb311)); have n3_ := Aside0.mk ((by rw [hg]; exact (below_size (by repeat (first | (with_reducible first | exact HB.out | apply below_alloc | apply pw_below_drewN | apply below_drew1) | exact HB.out))) : w.heap.size ≤ gb311)); clear HB; have HB := n0_; have BK311 := n1_; have GW311 := n2_; have GE311 := n3_; clear n0_ n1_ n2_ n3_; clear hb hbox hg) | ((with_reducible refine gate_dst (N := 4) rfl ?_); refine box_event ?hg (N := 4) ?hd (cs := #[.int .i64 0, .int .i64 0]) (t := 77) ?hr ?_; (case hd => rfl); (case hg => rfl); (case hr => first | (go_simp; done) | (go_simp; rfl)); intro gb312 hg w22 hbox hb; have n0_ := Aside0.mk (blk_below (g := gb311) (o := .cells #[.int .i64 a0_0, .int .i64 a0_1, .int .i64 a0_2, .int .i64 a0_3, .int .i64 a0_4, .int .i64 a0_5] 41 (0, 0)) (by (with_reducible repeat (first | refine blk_drewN ?_ _ | refine blk_drew ?_ | refine blk_alloc ?_ _)); exact BK311.out) hb); have n1_ := Aside0.mk (below_step (by repeat (first | (with_reducible first | exact HB.out | apply below_alloc | apply pw_below_drewN | apply below_drew1 | refine below_set ?_ GE311.out) | exact HB.out)) hb); have n2_ := Aside0.mk (hbox); have n3_ := Aside0.mk ((by rw [hg]; exact (below_size (by repeat (first | (with_reducible first | exact HB.out | apply below_alloc | apply pw_below_drewN | apply below_drew1 | refine below_set ?_ GE311.out) | exact HB.out))) : w.heap.size ≤ gb312)); have n4_ := Aside0.mk ((by rw [hg]; exact (below_size (by repeat (first | (with_reducible first | exact HB.out | apply below_alloc | apply pw_below_drewN | apply below_drew1 | refine below_set ?_ GE311.out) | exact HB.out))) : w.heap.size ≤ gb312)); have n5_ := Aside0.mk ((by rw [hg]; exact Nat.ne_of_lt (blk_lt (g := gb311) (o := .cells #[.int .i64 a0_0, .int .i64 a0_1, .int .i64 a0_2, .int .i64 a0_3, .int .i64 a0_4, .int .i64 a0_5] 41 (0, 0)) (by (with_reducible repeat (first | refine blk_drewN ?_ _ | refine blk_drew ?_ | refine blk_alloc ?_ _)); exact BK311.out)) : gb311 ≠ gb312)); have n6_ := Aside0.mk ((by rw [hg]; exact Nat.ne_of_gt (blk_lt (g := gb311) (o := .cells #[.int .i64 a0_0, .int .i64 a0_1, .int .i64 a0_2, .int .i64 a0_3, .int .i64 a0_4, .int .i64 a0_5] 41 (0, 0)) (by (with_reducible repeat (first | refine blk_drewN ?_ _ | refine blk_drew ?_ | refine blk_alloc ?_ _)); exact BK311.out)) : gb312 ≠ gb311)); clear BK311; clear HB; have BK311 := n0_; have HB := n1_; have BK312 := n2_; have GW312 := n3_; have GE312 := n4_; have NB311_312 := n5_; have NB312_311 := n6_; clear n0_ n1_ n2_ n3_ n4_ n5_ n6_; clear hb hbox hg; have hnb23 := NB311_312.out; have hnc23 := NB312_311.out; have hcz24_0 : w22.cell? ⟨gb311, 0, none⟩ = some (.int .i64 a0_0) := (blk_cell BK311.out 0).trans rfl; have hcz24_1 : w22.cell? ⟨gb311, 1, none⟩ = some (.int .i64 a0_1) := (blk_cell BK311.out 1).trans rfl; have hcz24_2 : w22.cell? ⟨gb311, 2, none⟩ = some (.int .i64 a0_2) := (blk_cell BK311.out 2).trans rfl; have hcz24_3 : w22.cell? ⟨gb311, 3, none⟩ = some (.int .i64 a0_3) := (blk_cell BK311.out 3).trans rfl; have hcz24_4 : w22.cell? ⟨gb311, 4, none⟩ = some (.int .i64 a0_4) := (blk_cell BK311.out 4).trans rfl; have hcz24_5 : w22.cell? ⟨gb311, 5, none⟩ = some (.int .i64 a0_5) := (blk_cell BK311.out 5).trans rfl; have hfz24_0 := blk_frozen BK311.out 0; have hfz24_1 := blk_frozen BK311.out 1; have hfz24_2 := blk_frozen BK311.out 2; have hfz24_3 := blk_frozen BK311.out 3; have hfz24_4 := blk_frozen BK311.out 4; have hfz24_5 := blk_frozen BK311.out 5; have hcz25_0 : w22.cell? ⟨gb312, 0, none⟩ = some (.int .i64 0) := (blk_cell BK312.out 0).trans rfl; have hcz25_1 : w22.cell? ⟨gb312, 1, none⟩ = some (.int .i64 0) := (blk_cell BK312.out 1).trans rfl; have hfz25_0 := blk_frozen BK312.out 0; have hfz25_1 := blk_frozen BK312.out 1))
   refine bodyPost_ret (results_ct rfl _ _ gb312 77 #[.int .i64 0, .int .i64 0] (0, 0) _ rfl (by (with_reducible repeat (first | refine blk_drewN ?_ _ | refine blk_drew ?_ | refine blk_alloc ?_ _)); refine blk_put (cs := #[.int .i64 0, .int .i64 0]) ?_ 1 _ rfl; (with_reducible repeat (first | refine blk_drewN ?_ _ | refine blk_drew ?_ | refine blk_alloc ?_ _)); refine blk_put (cs := #[.int .i64 0, .int .i64 0]) ?_ 0 _ rfl; (with_reducible repeat (first | refine blk_drewN ?_ _ | refine blk_drew ?_ | refine blk_alloc ?_ _)); exact BK312.out) Try.underlying77 rfl (by kernel_rfl)) rfl ?_
   exact ⟨by first | rfl | (simp [errW_none, errW_some] <;> rfl) | (simp [*, errW_none, errW_some] <;> rfl), by repeat (first | (with_reducible first | exact HB.out | apply below_alloc | apply pw_below_drewN | apply below_drew1 | refine below_set ?_ GE311.out | refine below_set ?_ GE312.out) | exact HB.out)⟩
 rw [if_pos c3] at H
 have c3b0 : (a0_3 == 1) = true := beq_iff_eq.mpr c3
 have c3b1 : (a0_3 != 1) = false := bne_eq_false_iff_eq.mpr c3
 clear c3
 by_cases c4 : a1 < a0_0
 · rw [if_pos c4] at H
   have c4b0 : decide (a1 < a0_0) = true := decide_eq_true c4
   clear c4
   simp only [Option.some.injEq, Prod.mk.injEq] at H
   obtain ⟨rfl, rfl, rfl⟩ := H
   go_enter Try.func43, Try.ntmps43
   go_wp2_with (first | ((with_reducible refine gate_dst (N := 2) rfl ?_); refine box_event ?hg (N := 2) ?hd (cs := #[.int .i64 a0_0, .int .i64 a0_1, .int .i64 a0_2, .int .i64 a0_3, .int .i64 a0_4, .int .i64 a0_5]) (t := 41) ?hr ?_; (case hd => rfl); (case hg => rfl); (case hr => first | (go_simp; done) | (go_simp; rfl)); intro gb311 hg w5 hbox hb; have n0_ := Aside0.mk (below_step (by repeat (first | (with_reducible first | exact HB.out | apply below_alloc | apply pw_below_drewN | apply below_drew1) | exact HB.out)) hb); have n1_ := Aside0.mk (hbox); have n2_ := Aside0.mk ((by rw [hg]; exact (below_size (by repeat (first | (with_reducible first | exact HB.out | apply below_alloc | apply pw_below_drewN | apply below_drew1) | exact HB.out))) : w.heap.size ≤ gb311)); have n3_ := Aside0.mk ((by rw [hg]; exact (below_size (by repeat (first | (with_reducible first | exact HB.out | apply below_alloc | apply pw_below_drewN | apply below_drew1) | exact HB.out))) : w.heap.size ≤ gb311)); clear HB; have HB := n0_; have BK311 := n1_; have GW311 := n2_; have GE311 := n3_; clear n0_ n1_ n2_ n3_; clear hb hbox hg) | ((with_reducible refine gate_dst (N := 4) rfl ?_); refine box_event ?hg (N := 4) ?hd (cs := #[.int .i64 0, .int .i64 0]) (t := 77) ?hr ?_; (case hd => rfl); (case hg => rfl); (case hr => first | (go_simp; done) | (go_simp; rfl)); intro gb312 hg w6 hbox hb; have n0_ := Aside0.mk (blk_below (g := gb311) (o := .cells #[.int .i64 a0_0, .int .i64 a0_1, .int .i64 a0_2, .int .i64 a0_3, .int .i64 a0_4, .int .i64 a0_5] 41 (0, 0)) (by (with_reducible repeat (first | refine blk_drewN ?_ _ | refine blk_drew ?_ | refine blk_alloc ?_ _)); exact BK311.out) hb); have n1_ := Aside0.mk (below_step (by repeat (first | (with_reducible first | exact HB.out | apply below_alloc | apply pw_below_drewN | apply below_drew1 | refine below_set ?_ GE311.out) | exact HB.out)) hb); have n2_ := Aside0.mk (hbox); have n3_ := Aside0.mk ((by rw [hg]; exact (below_size (by repeat (first | (with_reducible first | exact HB.out | apply below_alloc | apply pw_below_drewN | apply below_drew1 | refine below_set ?_ GE311.out) | exact HB.out))) : w.heap.size ≤ gb312)); have n4_ := Aside0.mk ((by rw [hg]; exact (below_size (by repeat (first | (with_reducible first | exact HB.out | apply below_alloc | apply pw_below_drewN | apply below_drew1 | refine below_set ?_ GE311.out) | exact HB.out))) : w.heap.size ≤ gb312)); have n5_ := Aside0.mk ((by rw [hg]; exact Nat.ne_of_lt (blk_lt (g := gb311) (o := .cells #[.int .i64 a0_0, .int .i64 a0_1, .int .i64 a0_2, .int .i64 a0_3, .int .i64 a0_4, .int .i64 a0_5] 41 (0, 0)) (by (with_reducible repeat (first | refine blk_drewN ?_ _ | refine blk_drew ?_ | refine blk_alloc ?_ _)); exact BK311.out)) : gb311 ≠ gb312)); have n6_ := Aside0.mk ((by rw [hg]; exact Nat.ne_of_gt (blk_lt (g := gb311) (o := .cells #[.int .i64 a0_0, .int .i64 a0_1, .int .i64 a0_2, .int .i64 a0_3, .int .i64 a0_4, .int .i64 a0_5] 41 (0, 0)) (by (with_reducible repeat (first | refine blk_drewN ?_ _ | refine blk_drew ?_ | refine blk_alloc ?_ _)); exact BK311.out)) : gb312 ≠ gb311)); clear BK311; clear HB; have BK311 := n0_; have HB := n1_; have BK312 := n2_; have GW312 := n3_; have GE312 := n4_; have NB311_312 := n5_; have NB312_311 := n6_; clear n0_ n1_ n2_ n3_ n4_ n5_ n6_; clear hb hbox hg; have hnb7 := NB311_312.out; have hnc7 := NB312_311.out; have hcz8_0 : w6.cell? ⟨gb311, 0, none⟩ = some (.int .i64 a0_0) := (blk_cell BK311.out 0).trans rfl; have hcz8_1 : w6.cell? ⟨gb311, 1, none⟩ = some (.int .i64 a0_1) := (blk_cell BK311.out 1).trans rfl; have hcz8_2 : w6.cell? ⟨gb311, 2, none⟩ = some (.int .i64 a0_2) := (blk_cell BK311.out 2).trans rfl; have hcz8_3 : w6.cell? ⟨gb311, 3, none⟩ = some (.int .i64 a0_3) := (blk_cell BK311.out 3).trans rfl; have hcz8_4 : w6.cell? ⟨gb311, 4, none⟩ = some (.int .i64 a0_4) := (blk_cell BK311.out 4).trans rfl; have hcz8_5 : w6.cell? ⟨gb311, 5, none⟩ = some (.int .i64 a0_5) := (blk_cell BK311.out 5).trans rfl; have hfz8_0 := blk_frozen BK311.out 0; have hfz8_1 := blk_frozen BK311.out 1; have hfz8_2 := blk_frozen BK311.out 2; have hfz8_3 := blk_frozen BK311.out 3; have hfz8_4 := blk_frozen BK311.out 4; have hfz8_5 := blk_frozen BK311.out 5; have hcz9_0 : w6.cell? ⟨gb312, 0, none⟩ = some (.int .i64 0) := (blk_cell BK312.out 0).trans rfl; have hcz9_1 : w6.cell? ⟨gb312, 1, none⟩ = some (.int .i64 0) := (blk_cell BK312.out 1).trans rfl; have hfz9_0 := blk_frozen BK312.out 0; have hfz9_1 := blk_frozen BK312.out 1))
   refine bodyPost_ret (results_ct rfl _ _ gb312 77 #[.int .i64 0, .int .i64 0] (0, 0) _ rfl (by (with_reducible repeat (first | refine blk_drewN ?_ _ | refine blk_drew ?_ | refine blk_alloc ?_ _)); refine blk_put (cs := #[.int .i64 0, .int .i64 0]) ?_ 1 _ rfl; (with_reducible repeat (first | refine blk_drewN ?_ _ | refine blk_drew ?_ | refine blk_alloc ?_ _)); refine blk_put (cs := #[.int .i64 0, .int .i64 0]) ?_ 0 _ rfl; (with_reducible repeat (first | refine blk_drewN ?_ _ | refine blk_drew ?_ | refine blk_alloc ?_ _)); exact BK312.out) Try.underlying77 rfl (by kernel_rfl)) rfl ?_
   exact ⟨by first | rfl | (simp [errW_none, errW_some] <;> rfl) | (simp [*, errW_none, errW_some] <;> rfl), by repeat (first | (with_reducible first | exact HB.out | apply below_alloc | apply pw_below_drewN | apply below_drew1 | refine below_set ?_ GE311.out | refine below_set ?_ GE312.out) | exact HB.out)⟩
 rw [if_neg c4] at H
 have c4b0 : decide (a1 < a0_0) = false := decide_eq_false c4
 clear c4
 by_cases c10 : a1 ≥ a0_1
 · rw [if_pos c10] at H
   have c10b0 : decide (a0_1 ≤ a1) = true := decide_eq_true c10
   clear c10
   simp only [Option.some.injEq, Prod.mk.injEq] at H
   obtain ⟨rfl, rfl, rfl⟩ := H
   go_enter Try.func43, Try.ntmps43
   go_wp2_with (first | ((with_reducible refine gate_dst (N := 2) rfl ?_); refine box_event ?hg (N := 2) ?hd (cs := #[.int .i64 a0_0, .int .i64 a0_1, .int .i64 a0_2, .int .i64 a0_3, .int .i64 a0_4, .int .i64 a0_5]) (t := 41) ?hr ?_; (case hd => rfl); (case hg => rfl); (case hr => first | (go_simp; done) | (go_simp; rfl)); intro gb311 hg w11 hbox hb; have n0_ := Aside0.mk (below_step (by repeat (first | (with_reducible first | exact HB.out | apply below_alloc | apply pw_below_drewN | apply below_drew1) | exact HB.out)) hb); have n1_ := Aside0.mk (hbox); have n2_ := Aside0.mk ((by rw [hg]; exact (below_size (by repeat (first | (with_reducible first | exact HB.out | apply below_alloc | apply pw_below_drewN | apply below_drew1) | exact HB.out))) : w.heap.size ≤ gb311)); have n3_ := Aside0.mk ((by rw [hg]; exact (below_size (by repeat (first | (with_reducible first | exact HB.out | apply below_alloc | apply pw_below_drewN | apply below_drew1) | exact HB.out))) : w.heap.size ≤ gb311)); clear HB; have HB := n0_; have BK311 := n1_; have GW311 := n2_; have GE311 := n3_; clear n0_ n1_ n2_ n3_; clear hb hbox hg) | ((with_reducible refine gate_dst (N := 4) rfl ?_); refine box_event ?hg (N := 4) ?hd (cs := #[.int .i64 0, .int .i64 0]) (t := 77) ?hr ?_; (case hd => rfl); (case hg => rfl); (case hr => first | (go_simp; done) | (go_simp; rfl)); intro gb312 hg w12 hbox hb; have n0_ := Aside0.mk (blk_below (g := gb311) (o := .cells #[.int .i64 a0_0, .int .i64 a0_1, .int .i64 a0_2, .int .i64 a0_3, .int .i64 a0_4, .int .i64 a0_5] 41 (0, 0)) (by (with_reducible repeat (first | refine blk_drewN ?_ _ | refine blk_drew ?_ | refine blk_alloc ?_ _)); exact BK311.out) hb); have n1_ := Aside0.mk (below_step (by repeat (first | (with_reducible first | exact HB.out | apply below_alloc | apply pw_below_drewN | apply below_drew1 | refine below_set ?_ GE311.out) | exact HB.out)) hb); have n2_ := Aside0.mk (hbox); have n3_ := Aside0.mk ((by rw [hg]; exact (below_size (by repeat (first | (with_reducible first | exact HB.out | apply below_alloc | apply pw_below_drewN | apply below_drew1 | refine below_set ?_ GE311.out) | exact HB.out))) : w.heap.size ≤ gb312)); have n4_ := Aside0.mk ((by rw [hg]; exact (below_size (by repeat (first | (with_reducible first | exact HB.out | apply below_alloc | apply pw_below_drewN | apply below_drew1 | refine below_set ?_ GE311.out) | exact HB.out))) : w.heap.size ≤ gb312)); have n5_ := Aside0.mk ((by rw [hg]; exact Nat.ne_of_lt (blk_lt (g := gb311) (o := .cells #[.int .i64 a0_0, .int .i64 a0_1, .int .i64 a0_2, .int .i64 a0_3, .int .i64 a0_4, .int .i64 a0_5] 41 (0, 0)) (by (with_reducible repeat (first | refine blk_drewN ?_ _ | refine blk_drew ?_ | refine blk_alloc ?_ _)); exact BK311.out)) : gb311 ≠ gb312)); have n6_ := Aside0.mk ((by rw [hg]; exact Nat.ne_of_gt (blk_lt (g := gb311) (o := .cells #[.int .i64 a0_0, .int .i64 a0_1, .int .i64 a0_2, .int .i64 a0_3, .int .i64 a0_4, .int .i64 a0_5] 41 (0, 0)) (by (with_reducible repeat (first | refine blk_drewN ?_ _ | refine blk_drew ?_ | refine blk_alloc ?_ _)); exact BK311.out)) : gb312 ≠ gb311)); clear BK311; clear HB; have BK311 := n0_; have HB := n1_; have BK312 := n2_; have GW312 := n3_; have GE312 := n4_; have NB311_312 := n5_; have NB312_311 := n6_; clear n0_ n1_ n2_ n3_ n4_ n5_ n6_; clear hb hbox hg; have hnb13 := NB311_312.out; have hnc13 := NB312_311.out; have hcz14_0 : w12.cell? ⟨gb311, 0, none⟩ = some (.int .i64 a0_0) := (blk_cell BK311.out 0).trans rfl; have hcz14_1 : w12.cell? ⟨gb311, 1, none⟩ = some (.int .i64 a0_1) := (blk_cell BK311.out 1).trans rfl; have hcz14_2 : w12.cell? ⟨gb311, 2, none⟩ = some (.int .i64 a0_2) := (blk_cell BK311.out 2).trans rfl; have hcz14_3 : w12.cell? ⟨gb311, 3, none⟩ = some (.int .i64 a0_3) := (blk_cell BK311.out 3).trans rfl; have hcz14_4 : w12.cell? ⟨gb311, 4, none⟩ = some (.int .i64 a0_4) := (blk_cell BK311.out 4).trans rfl; have hcz14_5 : w12.cell? ⟨gb311, 5, none⟩ = some (.int .i64 a0_5) := (blk_cell BK311.out 5).trans rfl; have hfz14_0 := blk_frozen BK311.out 0; have hfz14_1 := blk_frozen BK311.out 1; have hfz14_2 := blk_frozen BK311.out 2; have hfz14_3 := blk_frozen BK311.out 3; have hfz14_4 := blk_frozen BK311.out 4; have hfz14_5 := blk_frozen BK311.out 5; have hcz15_0 : w12.cell? ⟨gb312, 0, none⟩ = some (.int .i64 0) := (blk_cell BK312.out 0).trans rfl; have hcz15_1 : w12.cell? ⟨gb312, 1, none⟩ = some (.int .i64 0) := (blk_cell BK312.out 1).trans rfl; have hfz15_0 := blk_frozen BK312.out 0; have hfz15_1 := blk_frozen BK312.out 1))
   refine bodyPost_ret (results_ct rfl _ _ gb312 77 #[.int .i64 0, .int .i64 0] (0, 0) _ rfl (by (with_reducible repeat (first | refine blk_drewN ?_ _ | refine blk_drew ?_ | refine blk_alloc ?_ _)); refine blk_put (cs := #[.int .i64 0, .int .i64 0]) ?_ 1 _ rfl; (with_reducible repeat (first | refine blk_drewN ?_ _ | refine blk_drew ?_ | refine blk_alloc ?_ _)); refine blk_put (cs := #[.int .i64 0, .int .i64 0]) ?_ 0 _ rfl; (with_reducible repeat (first | refine blk_drewN ?_ _ | refine blk_drew ?_ | refine blk_alloc ?_ _)); exact BK312.out) Try.underlying77 rfl (by kernel_rfl)) rfl ?_
   exact ⟨by first | rfl | (simp [errW_none, errW_some] <;> rfl) | (simp [*, errW_none, errW_some] <;> rfl), by repeat (first | (with_reducible first | exact HB.out | apply below_alloc | apply pw_below_drewN | apply below_drew1 | refine below_set ?_ GE311.out | refine below_set ?_ GE312.out) | exact HB.out)⟩
 rw [if_neg c10] at H
 have c10b0 : decide (a0_1 ≤ a1) = false := decide_eq_false c10
 clear c10
 simp only [Option.some.injEq, Prod.mk.injEq] at H
 obtain ⟨rfl, rfl, rfl⟩ := H
 go_enter Try.func43, Try.ntmps43
 go_wp2_with (first | ((with_reducible refine gate_dst (N := 2) rfl ?_); refine box_event ?hg (N := 2) ?hd (cs := #[.int .i64 a0_0, .int .i64 a0_1, .int .i64 a0_2, .int .i64 a0_3, .int .i64 a0_4, .int .i64 a0_5]) (t := 41) ?hr ?_; (case hd => rfl); (case hg => rfl); (case hr => first | (go_simp; done) | (go_simp; rfl)); intro gb311 hg w16 hbox hb; have n0_ := Aside0.mk (below_step (by repeat (first | (with_reducible first | exact HB.out | apply below_alloc | apply pw_below_drewN | apply below_drew1) | exact HB.out)) hb); have n1_ := Aside0.mk (hbox); have n2_ := Aside0.mk ((by rw [hg]; exact (below_size (by repeat (first | (with_reducible first | exact HB.out | apply below_alloc | apply pw_below_drewN | apply below_drew1) | exact HB.out))) : w.heap.size ≤ gb311)); have n3_ := Aside0.mk ((by rw [hg]; exact (below_size (by repeat (first | (with_reducible first | exact HB.out | apply below_alloc | apply pw_below_drewN | apply below_drew1) | exact HB.out))) : w.heap.size ≤ gb311)); clear HB; have HB := n0_; have BK311 := n1_; have GW311 := n2_; have GE311 := n3_; clear n0_ n1_ n2_ n3_; clear hb hbox hg) | ((with_reducible refine gate_dst (N := 4) rfl ?_); refine box_event ?hg (N := 4) ?hd (cs := #[.int .i64 0, .int .i64 0]) (t := 77) ?hr ?_; (case hd => rfl); (case hg => rfl); (case hr => first | (go_simp; done) | (go_simp; rfl)); intro gb312 hg w17 hbox hb; have n0_ := Aside0.mk (blk_below (g := gb311) (o := .cells #[.int .i64 a0_0, .int .i64 a0_1, .int .i64 a0_2, .int .i64 a0_3, .int .i64 a0_4, .int .i64 a0_5] 41 (0, 0)) (by (with_reducible repeat (first | refine blk_drewN ?_ _ | refine blk_drew ?_ | refine blk_alloc ?_ _)); exact BK311.out) hb); have n1_ := Aside0.mk (below_step (by repeat (first | (with_reducible first | exact HB.out | apply below_alloc | apply pw_below_drewN | apply below_drew1 | refine below_set ?_ GE311.out) | exact HB.out)) hb); have n2_ := Aside0.mk (hbox); have n3_ := Aside0.mk ((by rw [hg]; exact (below_size (by repeat (first | (with_reducible first | exact HB.out | apply below_alloc | apply pw_below_drewN | apply below_drew1 | refine below_set ?_ GE311.out) | exact HB.out))) : w.heap.size ≤ gb312)); have n4_ := Aside0.mk ((by rw [hg]; exact (below_size (by repeat (first | (with_reducible first | exact HB.out | apply below_alloc | apply pw_below_drewN | apply below_drew1 | refine below_set ?_ GE311.out) | exact HB.out))) : w.heap.size ≤ gb312)); have n5_ := Aside0.mk ((by rw [hg]; exact Nat.ne_of_lt (blk_lt (g := gb311) (o := .cells #[.int .i64 a0_0, .int .i64 a0_1, .int .i64 a0_2, .int .i64 a0_3, .int .i64 a0_4, .int .i64 a0_5] 41 (0, 0)) (by (with_reducible repeat (first | refine blk_drewN ?_ _ | refine blk_drew ?_ | refine blk_alloc ?_ _)); exact BK311.out)) : gb311 ≠ gb312)); have n6_ := Aside0.mk ((by rw [hg]; exact Nat.ne_of_gt (blk_lt (g := gb311) (o := .cells #[.int .i64 a0_0, .int .i64 a0_1, .int .i64 a0_2, .int .i64 a0_3, .int .i64 a0_4, .int .i64 a0_5] 41 (0, 0)) (by (with_reducible repeat (first | refine blk_drewN ?_ _ | refine blk_drew ?_ | refine blk_alloc ?_ _)); exact BK311.out)) : gb312 ≠ gb311)); clear BK311; clear HB; have BK311 := n0_; have HB := n1_; have BK312 := n2_; have GW312 := n3_; have GE312 := n4_; have NB311_312 := n5_; have NB312_311 := n6_; clear n0_ n1_ n2_ n3_ n4_ n5_ n6_; clear hb hbox hg; have hnb18 := NB311_312.out; have hnc18 := NB312_311.out; have hcz19_0 : w17.cell? ⟨gb311, 0, none⟩ = some (.int .i64 a0_0) := (blk_cell BK311.out 0).trans rfl; have hcz19_1 : w17.cell? ⟨gb311, 1, none⟩ = some (.int .i64 a0_1) := (blk_cell BK311.out 1).trans rfl; have hcz19_2 : w17.cell? ⟨gb311, 2, none⟩ = some (.int .i64 a0_2) := (blk_cell BK311.out 2).trans rfl; have hcz19_3 : w17.cell? ⟨gb311, 3, none⟩ = some (.int .i64 a0_3) := (blk_cell BK311.out 3).trans rfl; have hcz19_4 : w17.cell? ⟨gb311, 4, none⟩ = some (.int .i64 a0_4) := (blk_cell BK311.out 4).trans rfl; have hcz19_5 : w17.cell? ⟨gb311, 5, none⟩ = some (.int .i64 a0_5) := (blk_cell BK311.out 5).trans rfl; have hfz19_0 := blk_frozen BK311.out 0; have hfz19_1 := blk_frozen BK311.out 1; have hfz19_2 := blk_frozen BK311.out 2; have hfz19_3 := blk_frozen BK311.out 3; have hfz19_4 := blk_frozen BK311.out 4; have hfz19_5 := blk_frozen BK311.out 5; have hcz20_0 : w17.cell? ⟨gb312, 0, none⟩ = some (.int .i64 0) := (blk_cell BK312.out 0).trans rfl; have hcz20_1 : w17.cell? ⟨gb312, 1, none⟩ = some (.int .i64 0) := (blk_cell BK312.out 1).trans rfl; have hfz20_0 := blk_frozen BK312.out 0; have hfz20_1 := blk_frozen BK312.out 1))
 refine bodyPost_ret (results_ct rfl _ _ gb312 77 #[.int .i64 a0_4, .int .i64 (wrap64 ((wrap64 (a0_5 + a1)) - a0_0))] (0, 0) _ rfl (by (with_reducible repeat (first | refine blk_drewN ?_ _ | refine blk_drew ?_ | refine blk_alloc ?_ _)); refine blk_put (cs := #[.int .i64 a0_4, .int .i64 0]) ?_ 1 _ rfl; (with_reducible repeat (first | refine blk_drewN ?_ _ | refine blk_drew ?_ | refine blk_alloc ?_ _)); refine blk_put (cs := #[.int .i64 0, .int .i64 0]) ?_ 0 _ rfl; (with_reducible repeat (first | refine blk_drewN ?_ _ | refine blk_drew ?_ | refine blk_alloc ?_ _)); exact BK312.out) Try.underlying77 rfl (by kernel_rfl)) rfl ?_
 exact ⟨by first | rfl | (simp [errW_none, errW_some] <;> rfl) | (simp [*, errW_none, errW_some] <;> rfl), by repeat (first | (with_reducible first | exact HB.out | apply below_alloc | apply pw_below_drewN | apply below_drew1 | refine below_set ?_ GE311.out | refine below_set ?_ GE312.out) | exact HB.out)⟩

end Go.Proofs.Ytafmeagfockdfaa.Rg
