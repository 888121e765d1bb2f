-- Written by prn.py, a program of this session over the kit's printer. Not trusted: Lean checks it.
import Derived.Test.YtafmeagfockdfaaRg0
import Derived.Test.YtafmeagfockdfaaSq
namespace Go.Proofs.Ytafmeagfockdfaa.Rg
open Go.Proofs.Ytafmeagfockdfaa.Sq
open Go.RowKit Go.Proofs.YtafmeagfockdfaaW.PrintWords Go.Proofs.YtafmeagfockdfaaW.PrintLast Go.Proofs.YtafmeagfockdfaaW.PrintMore
attribute [local go_sem] max2_int min2_int max_two min_two max_three min_three max_four min_four   -- for this text's walks alone
set_option linter.unusedVariables false
set_option linter.unusedSimpArgs false

/-! ### region_Find: function 37 -/
def region_Find.l0 : Nat → Int → List (S41) → Int → Int → Option (Int × Int × Int × Int × Int × Int × Bool)
  | 0, _, _, _, _ => none
  | k + 1, x1, x8, x9, x10 => if x10 < x9 then (if 0 ≤ x10 then (if x10 < (x8.length : Int) then (if x1 ≥ ((rd_T41 x8 x10).f0) then (if x1 < ((rd_T41 x8 x10).f1) then (some ((rd_T41 x8 x10).f0, (rd_T41 x8 x10).f1, (rd_T41 x8 x10).f2, (rd_T41 x8 x10).f3, (rd_T41 x8 x10).f4, (rd_T41 x8 x10).f5, true)) else (region_Find.l0 k x1 x8 x9 (wrap64 (x10 + 1)))) else (region_Find.l0 k x1 x8 x9 (wrap64 (x10 + 1)))) else (none)) else (none)) else (some (0, 0, 0, 0, 0, 0, false))
def region_Find.f (k : Nat) (l0 : List (S41)) (a1 : Int) : Option (Int × Int × Int × Int × Int × Int × Bool) := region_Find.l0 k a1 l0 (l0.length : Int) 0
theorem region_Find.mono_l : ∀ k, (∀ y0 y1 y2 y3, LeO (region_Find.l0 k y0 y1 y2 y3) (region_Find.l0 (k + 1) y0 y1 y2 y3))
  | 0 => fun _ _ _ _ r h => by simp [region_Find.l0] at h
  | k + 1 => by
    have ih0 := region_Find.mono_l k
    · intro y0 y1 y2 y3
      unfold region_Find.l0
      repeat' first
      | (with_reducible exact ih0 _ _ _ _)
      | (with_reducible exact LeO.refl _)
      | (with_reducible exact LeO.none _)
      | (with_reducible refine LeO.ite ?_ ?_)
      | (with_reducible refine LeO.bind ?_ (fun _ => ?_))
      | exact ih0 _ _ _ _
      | exact LeO.none _
      | refine LeO.ite ?_ ?_
      | refine LeO.bind ?_ (fun _ => ?_)
theorem region_Find.mono : ∀ a0 a1 k, LeO (region_Find.f k a0 a1) (region_Find.f (k + 1) a0 a1) := by
  intro a0 a1 k
  have ih0 := region_Find.mono_l k
  unfold region_Find.f
  repeat' first
      | (with_reducible exact ih0 _ _ _ _)
      | (with_reducible exact LeO.refl _)
      | (with_reducible exact LeO.none _)
      | (with_reducible refine LeO.ite ?_ ?_)
      | (with_reducible refine LeO.bind ?_ (fun _ => ?_))
      | exact ih0 _ _ _ _
      | exact LeO.none _
      | refine LeO.ite ?_ ?_
      | refine LeO.bind ?_ (fun _ => ?_)
set_option maxHeartbeats 8000000 in
set_option maxRecDepth 100000 in
theorem region_Find.calls (k : Nat) (A0 : Option Addr) (c0 : Nat) (l0 : List (S41)) (a1 : Int) (r1 : Int) (r2 : Int) (r3 : Int) (r4 : Int) (r5 : Int) (r6 : Int) (r7 : Bool) (w : World) (hr0 : Kd.C k41 w A0 l0.length l0) (hc0 : l0.length ≤ c0) (h : region_Find.f k l0 a1 = some (r1, r2, r3, r4, r5, r6, r7)) :
    Calls Try.prog 37 #[.slice A0 l0.length c0, .int .i64 a1] w fun e w' => e = .returned (.tuple #[.agg #[.int .i64 r1, .int .i64 r2, .int .i64 r3, .int .i64 r4, .int .i64 r5, .int .i64 r6], .bool r7]) ∧ Below w.heap.size w w' := by
 have hu41 := Try.underlying41
 have HR0 := Aside0.mk hr0
 have HC0 := Aside0.mk hc0
 clear hr0 hc0
 have HB := Aside0.mk (Below.refl w.heap.size w)
 have H : (region_Find.l0 k a1 l0 (l0.length : Int) 0) = some (r1, r2, r3, r4, r5, r6, r7) := h
 clear h
 have H' := Aside0.mk H
 clear H
 go_enter Try.func37, Try.ntmps37
 go_wp2_with (first | ((with_reducible refine gate_dst (N := 4) rfl ?_); refine box_event ?hg (N := 4) ?hd (cs := #[.int .i64 0, .int .i64 0, .int .i64 0, .int .i64 0, .int .i64 0, .int .i64 0]) (t := 41) ?hr ?_; (case hd => rfl); (case hg => rfl); (case hr => first | (go_simp; done) | (go_simp; rfl)); intro gb206 hg w3 hbox hb; have n0_ := Aside0.mk (below_step (by repeat (first | (with_reducible first | exact HB.out | apply below_alloc | apply pw_below_drewN | apply below_drew1) | exact HB.out)) hb); have n1_ := Aside0.mk (hbox); have n2_ := Aside0.mk ((by rw [hg]; exact (below_size (by repeat (first | (with_reducible first | exact HB.out | apply below_alloc | apply pw_below_drewN | apply below_drew1) | exact HB.out))) : w.heap.size ≤ gb206)); have n3_ := Aside0.mk ((by rw [hg]; exact (below_size (by repeat (first | (with_reducible first | exact HB.out | apply below_alloc | apply pw_below_drewN | apply below_drew1) | exact HB.out))) : w.heap.size ≤ gb206)); clear HB; have HB := n0_; have BK206 := n1_; have GW206 := n2_; have GE206 := n3_; clear n0_ n1_ n2_ n3_; clear hb hbox hg))
 go_loopg [10] k (fun kq v10 w' => ∃ (x10_1 : Int) (x207000_1 : Int) (x207001_1 : Int) (x207002_1 : Int) (x207003_1 : Int) (x207004_1 : Int) (x207005_1 : Int), v10 = .int .i64 x10_1 ∧ Aside0 (region_Find.l0 kq a1 l0 (l0.length : Int) x10_1 = some (r1, r2, r3, r4, r5, r6, r7)) ∧ Aside0 (kq ≤ k) ∧ Aside0 (w'.heap[gb206]? = some (.cells #[.int .i64 x207000_1, .int .i64 x207001_1, .int .i64 x207002_1, .int .i64 x207003_1, .int .i64 x207004_1, .int .i64 x207005_1] 41 (0, 0))) ∧ Aside0 (Below w.heap.size w w'))
 case atStart => exact ⟨(0), (0), (0), (0), (0), (0), (0), (by first | rfl | (simp; done) | (simp [*]; done)), H', ⟨Nat.le_refl _⟩, ⟨by (with_reducible repeat (first | refine blk_drewN ?_ _ | refine blk_drew ?_ | refine blk_alloc ?_ _)); exact BK206.out⟩, ⟨by repeat (first | (with_reducible first | exact HB.out | apply below_alloc | apply pw_below_drewN | apply below_drew1 | refine below_set ?_ GE206.out) | exact HB.out)⟩⟩
 case round =>
  clear H'
  try clear p2
  try clear c3
  obtain ⟨x10_1, x207000_1, x207001_1, x207002_1, x207003_1, x207004_1, x207005_1, rfl, HA, HK1, BK206, HB⟩ := hrel
  cases gk with
  | zero => exact absurd HA.out (by simp [region_Find.l0])
  | succ k1 =>
   have H := HA.out
   clear HA
   simp only [region_Find.l0] at H
   by_cases c4 : x10_1 < (l0.length : Int)
   rotate_left
   · rw [if_neg c4] at H
     have c4b0 : decide (x10_1 < (l0.length : Int)) = false := decide_eq_false c4
     clear c4
     simp only [Option.some.injEq, Prod.mk.injEq] at H
     obtain ⟨rfl, rfl, rfl, rfl, rfl, rfl, rfl⟩ := H
     have hcz19_0 : wr.cell? ⟨gb206, 0, none⟩ = some (.int .i64 x207000_1) := (blk_cell BK206.out 0).trans rfl
     have hcz19_1 : wr.cell? ⟨gb206, 1, none⟩ = some (.int .i64 x207001_1) := (blk_cell BK206.out 1).trans rfl
     have hcz19_2 : wr.cell? ⟨gb206, 2, none⟩ = some (.int .i64 x207002_1) := (blk_cell BK206.out 2).trans rfl
     have hcz19_3 : wr.cell? ⟨gb206, 3, none⟩ = some (.int .i64 x207003_1) := (blk_cell BK206.out 3).trans rfl
     have hcz19_4 : wr.cell? ⟨gb206, 4, none⟩ = some (.int .i64 x207004_1) := (blk_cell BK206.out 4).trans rfl
     have hcz19_5 : wr.cell? ⟨gb206, 5, none⟩ = some (.int .i64 x207005_1) := (blk_cell BK206.out 5).trans rfl
     have hfz19_0 := blk_frozen BK206.out 0
     have hfz19_1 := blk_frozen BK206.out 1
     have hfz19_2 := blk_frozen BK206.out 2
     have hfz19_3 := blk_frozen BK206.out 3
     have hfz19_4 := blk_frozen BK206.out 4
     have hfz19_5 := blk_frozen BK206.out 5
     go_wp2
     refine bodyPost_ret (results_ct rfl _ _ gb206 41 #[.int .i64 0, .int .i64 0, .int .i64 0, .int .i64 0, .int .i64 0, .int .i64 0] (0, 0) _ rfl (by (with_reducible repeat (first | refine blk_drewN ?_ _ | refine blk_drew ?_ | refine blk_alloc ?_ _)); refine blk_put (cs := #[.int .i64 0, .int .i64 0, .int .i64 0, .int .i64 0, .int .i64 0, .int .i64 x207005_1]) ?_ 5 _ rfl; (with_reducible repeat (first | refine blk_drewN ?_ _ | refine blk_drew ?_ | refine blk_alloc ?_ _)); refine blk_put (cs := #[.int .i64 0, .int .i64 0, .int .i64 0, .int .i64 0, .int .i64 x207004_1, .int .i64 x207005_1]) ?_ 4 _ rfl; (with_reducible repeat (first | refine blk_drewN ?_ _ | refine blk_drew ?_ | refine blk_alloc ?_ _)); refine blk_put (cs := #[.int .i64 0, .int .i64 0, .int .i64 0, .int .i64 x207003_1, .int .i64 x207004_1, .int .i64 x207005_1]) ?_ 3 _ rfl; (with_reducible repeat (first | refine blk_drewN ?_ _ | refine blk_drew ?_ | refine blk_alloc ?_ _)); refine blk_put (cs := #[.int .i64 0, .int .i64 0, .int .i64 x207002_1, .int .i64 x207003_1, .int .i64 x207004_1, .int .i64 x207005_1]) ?_ 2 _ rfl; (with_reducible repeat (first | refine blk_drewN ?_ _ | refine blk_drew ?_ | refine blk_alloc ?_ _)); refine blk_put (cs := #[.int .i64 0, .int .i64 x207001_1, .int .i64 x207002_1, .int .i64 x207003_1, .int .i64 x207004_1, .int .i64 x207005_1]) ?_ 1 _ rfl; (with_reducible repeat (first | refine blk_drewN ?_ _ | refine blk_drew ?_ | refine blk_alloc ?_ _)); refine blk_put (cs := #[.int .i64 x207000_1, .int .i64 x207001_1, .int .i64 x207002_1, .int .i64 x207003_1, .int .i64 x207004_1, .int .i64 x207005_1]) ?_ 0 _ rfl; (with_reducible repeat (first | refine blk_drewN ?_ _ | refine blk_drew ?_ | refine blk_alloc ?_ _)); exact BK206.out) Try.underlying41 rfl (by kernel_rfl)) rfl ?_
     exact ⟨by first | rfl | (simp [errW_none, errW_some] <;> rfl) | (simp [*, errW_none, errW_some] <;> rfl), by repeat (first | (with_reducible first | exact HB.out | apply below_alloc | apply pw_below_drewN | apply below_drew1 | refine below_set ?_ GE206.out) | exact HB.out)⟩
   rw [if_pos c4] at H
   have c4b0 : decide (x10_1 < (l0.length : Int)) = true := decide_eq_true c4
   clear c4
   by_cases c5 : 0 ≤ x10_1
   rotate_left
   · rw [if_neg c5] at H
     exact absurd H (by simp)
   rw [if_pos c5] at H
   have c5b0 : decide (0 ≤ x10_1) = true := decide_eq_true c5
   clear c5
   by_cases c6 : x10_1 < (l0.length : Int)
   rotate_left
   · rw [if_neg c6] at H
     exact absurd H (by simp)
   rw [if_pos c6] at H
   have c6b0 : decide (x10_1 < (l0.length : Int)) = true := decide_eq_true c6
   clear c6
   by_cases c7 : a1 ≥ ((rd_T41 l0 x10_1).f0)
   rotate_left
   · rw [if_neg c7] at H
     have c7b0 : decide (((rd_T41 l0 x10_1).f0) ≤ a1) = false := decide_eq_false c7
     clear c7
     have H' := Aside0.mk H
     clear H
     have p207 : 0 ≤ (x10_1 : Int) := of_decide_eq_true (by first | (with_reducible assumption) | assumption)
     have q207 : x10_1 < (l0.length : Int) := of_decide_eq_true (by first | (with_reducible assumption) | assumption)
     obtain ⟨ad207, e207, hx207_0, hx207_1, hx207_2, hx207_3, hx207_4, hx207_5⟩ := at_T41 HR0.out x10_1 p207 q207
     cases e207
     replace hx207_0 := up_ hx207_0 HB.out
     replace hx207_1 := up_ hx207_1 HB.out
     replace hx207_2 := up_ hx207_2 HB.out
     replace hx207_3 := up_ hx207_3 HB.out
     replace hx207_4 := up_ hx207_4 HB.out
     replace hx207_5 := up_ hx207_5 HB.out
     replace p207 := eq_true p207
     replace q207 := eq_true q207
     go_wp2_with (first | ((with_reducible refine gate_dst (N := 7) rfl ?_); refine box_event ?hg (N := 7) ?hd (cs := #[.int .i64 0, .int .i64 0, .int .i64 0, .int .i64 0, .int .i64 0, .int .i64 0]) (t := 41) ?hr ?_; (case hd => rfl); (case hg => rfl); (case hr => first | (go_simp; done) | (go_simp; rfl)); intro gb208 hg w16 hbox hb; have n0_ := Aside0.mk (blk_below (g := gb206) (o := .cells #[.int .i64 x207000_1, .int .i64 x207001_1, .int .i64 x207002_1, .int .i64 x207003_1, .int .i64 x207004_1, .int .i64 x207005_1] 41 (0, 0)) (by (with_reducible repeat (first | refine blk_drewN ?_ _ | refine blk_drew ?_ | refine blk_alloc ?_ _)); exact BK206.out) hb); have n1_ := Aside0.mk (below_step (by repeat (first | (with_reducible first | exact HB.out | apply below_alloc | apply pw_below_drewN | apply below_drew1 | refine below_set ?_ GE206.out) | exact HB.out)) hb); have n2_ := Aside0.mk (hbox); have n3_ := Aside0.mk ((by rw [hg]; exact (below_size (by repeat (first | (with_reducible first | exact HB.out | apply below_alloc | apply pw_below_drewN | apply below_drew1 | refine below_set ?_ GE206.out) | exact HB.out))) : w.heap.size ≤ gb208)); have n4_ := Aside0.mk ((by rw [hg]; exact (below_size (by repeat (first | (with_reducible first | exact HB.out | apply below_alloc | apply pw_below_drewN | apply below_drew1 | refine below_set ?_ GE206.out) | exact HB.out))) : w.heap.size ≤ gb208)); have n5_ := Aside0.mk ((by rw [hg]; exact Nat.ne_of_lt (blk_lt (g := gb206) (o := .cells #[.int .i64 x207000_1, .int .i64 x207001_1, .int .i64 x207002_1, .int .i64 x207003_1, .int .i64 x207004_1, .int .i64 x207005_1] 41 (0, 0)) (by (with_reducible repeat (first | refine blk_drewN ?_ _ | refine blk_drew ?_ | refine blk_alloc ?_ _)); exact BK206.out)) : gb206 ≠ gb208)); have n6_ := Aside0.mk ((by rw [hg]; exact Nat.ne_of_gt (blk_lt (g := gb206) (o := .cells #[.int .i64 x207000_1, .int .i64 x207001_1, .int .i64 x207002_1, .int .i64 x207003_1, .int .i64 x207004_1, .int .i64 x207005_1] 41 (0, 0)) (by (with_reducible repeat (first | refine blk_drewN ?_ _ | refine blk_drew ?_ | refine blk_alloc ?_ _)); exact BK206.out)) : gb208 ≠ gb206)); clear BK206; clear HB; have BK206 := n0_; have HB := n1_; have BK208 := n2_; have GW208 := n3_; have GE208 := n4_; have NB206_208 := n5_; have NB208_206 := n6_; clear n0_ n1_ n2_ n3_ n4_ n5_ n6_; clear hb hbox hg; have hnb17 := NB208_206.out; have hnc17 := NB206_208.out; have hcz18_0 : w16.cell? ⟨gb208, 0, none⟩ = some (.int .i64 0) := (blk_cell BK208.out 0).trans rfl; have hcz18_1 : w16.cell? ⟨gb208, 1, none⟩ = some (.int .i64 0) := (blk_cell BK208.out 1).trans rfl; have hcz18_2 : w16.cell? ⟨gb208, 2, none⟩ = some (.int .i64 0) := (blk_cell BK208.out 2).trans rfl; have hcz18_3 : w16.cell? ⟨gb208, 3, none⟩ = some (.int .i64 0) := (blk_cell BK208.out 3).trans rfl; have hcz18_4 : w16.cell? ⟨gb208, 4, none⟩ = some (.int .i64 0) := (blk_cell BK208.out 4).trans rfl; have hcz18_5 : w16.cell? ⟨gb208, 5, none⟩ = some (.int .i64 0) := (blk_cell BK208.out 5).trans rfl; have hfz18_0 := blk_frozen BK208.out 0; have hfz18_1 := blk_frozen BK208.out 1; have hfz18_2 := blk_frozen BK208.out 2; have hfz18_3 := blk_frozen BK208.out 3; have hfz18_4 := blk_frozen BK208.out 4; have hfz18_5 := blk_frozen BK208.out 5))
     go_roundg k1
     case measure => have := HK1.out; omega
     case rel => exact ⟨(wrap64 (x10_1 + 1)), (x207000_1), (x207001_1), (x207002_1), (x207003_1), (x207004_1), (x207005_1), (by first | rfl | (simp; done) | (simp [*]; done)), H', ⟨by have := HK1.out; omega⟩, ⟨by (with_reducible repeat (first | refine blk_drewN ?_ _ | refine blk_drew ?_ | refine blk_alloc ?_ _)); refine blk_far ?_ NB206_208.out _; (with_reducible repeat (first | refine blk_drewN ?_ _ | refine blk_drew ?_ | refine blk_alloc ?_ _)); refine blk_far ?_ NB206_208.out _; (with_reducible repeat (first | refine blk_drewN ?_ _ | refine blk_drew ?_ | refine blk_alloc ?_ _)); refine blk_far ?_ NB206_208.out _; (with_reducible repeat (first | refine blk_drewN ?_ _ | refine blk_drew ?_ | refine blk_alloc ?_ _)); refine blk_far ?_ NB206_208.out _; (with_reducible repeat (first | refine blk_drewN ?_ _ | refine blk_drew ?_ | refine blk_alloc ?_ _)); refine blk_far ?_ NB206_208.out _; (with_reducible repeat (first | refine blk_drewN ?_ _ | refine blk_drew ?_ | refine blk_alloc ?_ _)); refine blk_far ?_ NB206_208.out _; (with_reducible repeat (first | refine blk_drewN ?_ _ | refine blk_drew ?_ | refine blk_alloc ?_ _)); exact BK206.out⟩, ⟨by repeat (first | (with_reducible first | exact HB.out | apply below_alloc | apply pw_below_drewN | apply below_drew1 | refine below_set ?_ GE206.out | refine below_set ?_ GE208.out) | exact HB.out)⟩⟩
   rw [if_pos c7] at H
   have c7b0 : decide (((rd_T41 l0 x10_1).f0) ≤ a1) = true := decide_eq_true c7
   clear c7
   by_cases c8 : a1 < ((rd_T41 l0 x10_1).f1)
   rotate_left
   · rw [if_neg c8] at H
     have c8b0 : decide (a1 < ((rd_T41 l0 x10_1).f1)) = false := decide_eq_false c8
     clear c8
     have H' := Aside0.mk H
     clear H
     have p207 : 0 ≤ (x10_1 : Int) := of_decide_eq_true (by first | (with_reducible assumption) | assumption)
     have q207 : x10_1 < (l0.length : Int) := of_decide_eq_true (by first | (with_reducible assumption) | assumption)
     obtain ⟨ad207, e207, hx207_0, hx207_1, hx207_2, hx207_3, hx207_4, hx207_5⟩ := at_T41 HR0.out x10_1 p207 q207
     cases e207
     replace hx207_0 := up_ hx207_0 HB.out
     replace hx207_1 := up_ hx207_1 HB.out
     replace hx207_2 := up_ hx207_2 HB.out
     replace hx207_3 := up_ hx207_3 HB.out
     replace hx207_4 := up_ hx207_4 HB.out
     replace hx207_5 := up_ hx207_5 HB.out
     replace p207 := eq_true p207
     replace q207 := eq_true q207
     go_wp2_with (first | ((with_reducible refine gate_dst (N := 7) rfl ?_); refine box_event ?hg (N := 7) ?hd (cs := #[.int .i64 0, .int .i64 0, .int .i64 0, .int .i64 0, .int .i64 0, .int .i64 0]) (t := 41) ?hr ?_; (case hd => rfl); (case hg => rfl); (case hr => first | (go_simp; done) | (go_simp; rfl)); intro gb208 hg w13 hbox hb; have n0_ := Aside0.mk (blk_below (g := gb206) (o := .cells #[.int .i64 x207000_1, .int .i64 x207001_1, .int .i64 x207002_1, .int .i64 x207003_1, .int .i64 x207004_1, .int .i64 x207005_1] 41 (0, 0)) (by (with_reducible repeat (first | refine blk_drewN ?_ _ | refine blk_drew ?_ | refine blk_alloc ?_ _)); exact BK206.out) hb); have n1_ := Aside0.mk (below_step (by repeat (first | (with_reducible first | exact HB.out | apply below_alloc | apply pw_below_drewN | apply below_drew1 | refine below_set ?_ GE206.out) | exact HB.out)) hb); have n2_ := Aside0.mk (hbox); have n3_ := Aside0.mk ((by rw [hg]; exact (below_size (by repeat (first | (with_reducible first | exact HB.out | apply below_alloc | apply pw_below_drewN | apply below_drew1 | refine below_set ?_ GE206.out) | exact HB.out))) : w.heap.size ≤ gb208)); have n4_ := Aside0.mk ((by rw [hg]; exact (below_size (by repeat (first | (with_reducible first | exact HB.out | apply below_alloc | apply pw_below_drewN | apply below_drew1 | refine below_set ?_ GE206.out) | exact HB.out))) : w.heap.size ≤ gb208)); have n5_ := Aside0.mk ((by rw [hg]; exact Nat.ne_of_lt (blk_lt (g := gb206) (o := .cells #[.int .i64 x207000_1, .int .i64 x207001_1, .int .i64 x207002_1, .int .i64 x207003_1, .int .i64 x207004_1, .int .i64 x207005_1] 41 (0, 0)) (by (with_reducible repeat (first | refine blk_drewN ?_ _ | refine blk_drew ?_ | refine blk_alloc ?_ _)); exact BK206.out)) : gb206 ≠ gb208)); have n6_ := Aside0.mk ((by rw [hg]; exact Nat.ne_of_gt (blk_lt (g := gb206) (o := .cells #[.int .i64 x207000_1, .int .i64 x207001_1, .int .i64 x207002_1, .int .i64 x207003_1, .int .i64 x207004_1, .int .i64 x207005_1] 41 (0, 0)) (by (with_reducible repeat (first | refine blk_drewN ?_ _ | refine blk_drew ?_ | refine blk_alloc ?_ _)); exact BK206.out)) : gb208 ≠ gb206)); clear BK206; clear HB; have BK206 := n0_; have HB := n1_; have BK208 := n2_; have GW208 := n3_; have GE208 := n4_; have NB206_208 := n5_; have NB208_206 := n6_; clear n0_ n1_ n2_ n3_ n4_ n5_ n6_; clear hb hbox hg; have hnb14 := NB208_206.out; have hnc14 := NB206_208.out; have hcz15_0 : w13.cell? ⟨gb208, 0, none⟩ = some (.int .i64 0) := (blk_cell BK208.out 0).trans rfl; have hcz15_1 : w13.cell? ⟨gb208, 1, none⟩ = some (.int .i64 0) := (blk_cell BK208.out 1).trans rfl; have hcz15_2 : w13.cell? ⟨gb208, 2, none⟩ = some (.int .i64 0) := (blk_cell BK208.out 2).trans rfl; have hcz15_3 : w13.cell? ⟨gb208, 3, none⟩ = some (.int .i64 0) := (blk_cell BK208.out 3).trans rfl; have hcz15_4 : w13.cell? ⟨gb208, 4, none⟩ = some (.int .i64 0) := (blk_cell BK208.out 4).trans rfl; have hcz15_5 : w13.cell? ⟨gb208, 5, none⟩ = some (.int .i64 0) := (blk_cell BK208.out 5).trans rfl; have hfz15_0 := blk_frozen BK208.out 0; have hfz15_1 := blk_frozen BK208.out 1; have hfz15_2 := blk_frozen BK208.out 2; have hfz15_3 := blk_frozen BK208.out 3; have hfz15_4 := blk_frozen BK208.out 4; have hfz15_5 := blk_frozen BK208.out 5))
     go_roundg k1
     case measure => have := HK1.out; omega
     case rel => exact ⟨(wrap64 (x10_1 + 1)), (x207000_1), (x207001_1), (x207002_1), (x207003_1), (x207004_1), (x207005_1), (by first | rfl | (simp; done) | (simp [*]; done)), H', ⟨by have := HK1.out; omega⟩, ⟨by (with_reducible repeat (first | refine blk_drewN ?_ _ | refine blk_drew ?_ | refine blk_alloc ?_ _)); refine blk_far ?_ NB206_208.out _; (with_reducible repeat (first | refine blk_drewN ?_ _ | refine blk_drew ?_ | refine blk_alloc ?_ _)); refine blk_far ?_ NB206_208.out _; (with_reducible repeat (first | refine blk_drewN ?_ _ | refine blk_drew ?_ | refine blk_alloc ?_ _)); refine blk_far ?_ NB206_208.out _; (with_reducible repeat (first | refine blk_drewN ?_ _ | refine blk_drew ?_ | refine blk_alloc ?_ _)); refine blk_far ?_ NB206_208.out _; (with_reducible repeat (first | refine blk_drewN ?_ _ | refine blk_drew ?_ | refine blk_alloc ?_ _)); refine blk_far ?_ NB206_208.out _; (with_reducible repeat (first | refine blk_drewN ?_ _ | refine blk_drew ?_ | refine blk_alloc ?_ _)); refine blk_far ?_ NB206_208.out _; (with_reducible repeat (first | refine blk_drewN ?_ _ | refine blk_drew ?_ | refine blk_alloc ?_ _)); exact BK206.out⟩, ⟨by repeat (first | (with_reducible first | exact HB.out | apply below_alloc | apply pw_below_drewN | apply below_drew1 | refine below_set ?_ GE206.out | refine below_set ?_ GE208.out) | exact HB.out)⟩⟩
   rw [if_pos c8] at H
   have c8b0 : decide (a1 < ((rd_T41 l0 x10_1).f1)) = true := decide_eq_true c8
   clear c8
   simp only [Option.some.injEq, Prod.mk.injEq] at H
   obtain ⟨rfl, rfl, rfl, rfl, rfl, rfl, rfl⟩ := H
   have p207 : 0 ≤ (x10_1 : Int) := of_decide_eq_true (by first | (with_reducible assumption) | assumption)
   have q207 : x10_1 < (l0.length : Int) := of_decide_eq_true (by first | (with_reducible assumption) | assumption)
   obtain ⟨ad207, e207, hx207_0, hx207_1, hx207_2, hx207_3, hx207_4, hx207_5⟩ := at_T41 HR0.out x10_1 p207 q207
   cases e207
   replace hx207_0 := up_ hx207_0 HB.out
   replace hx207_1 := up_ hx207_1 HB.out
   replace hx207_2 := up_ hx207_2 HB.out
   replace hx207_3 := up_ hx207_3 HB.out
   replace hx207_4 := up_ hx207_4 HB.out
   replace hx207_5 := up_ hx207_5 HB.out
   replace p207 := eq_true p207
   replace q207 := eq_true q207
   go_wp2_with (first | ((with_reducible refine gate_dst (N := 7) rfl ?_); refine box_event ?hg (N := 7) ?hd (cs := #[.int .i64 0, .int .i64 0, .int .i64 0, .int .i64 0, .int .i64 0, .int .i64 0]) (t := 41) ?hr ?_; (case hd => rfl); (case hg => rfl); (case hr => first | (go_simp; done) | (go_simp; rfl)); intro gb208 hg w9 hbox hb; have n0_ := Aside0.mk (blk_below (g := gb206) (o := .cells #[.int .i64 x207000_1, .int .i64 x207001_1, .int .i64 x207002_1, .int .i64 x207003_1, .int .i64 x207004_1, .int .i64 x207005_1] 41 (0, 0)) (by (with_reducible repeat (first | refine blk_drewN ?_ _ | refine blk_drew ?_ | refine blk_alloc ?_ _)); exact BK206.out) hb); have n1_ := Aside0.mk (below_step (by repeat (first | (with_reducible first | exact HB.out | apply below_alloc | apply pw_below_drewN | apply below_drew1 | refine below_set ?_ GE206.out) | exact HB.out)) hb); have n2_ := Aside0.mk (hbox); have n3_ := Aside0.mk ((by rw [hg]; exact (below_size (by repeat (first | (with_reducible first | exact HB.out | apply below_alloc | apply pw_below_drewN | apply below_drew1 | refine below_set ?_ GE206.out) | exact HB.out))) : w.heap.size ≤ gb208)); have n4_ := Aside0.mk ((by rw [hg]; exact (below_size (by repeat (first | (with_reducible first | exact HB.out | apply below_alloc | apply pw_below_drewN | apply below_drew1 | refine below_set ?_ GE206.out) | exact HB.out))) : w.heap.size ≤ gb208)); have n5_ := Aside0.mk ((by rw [hg]; exact Nat.ne_of_lt (blk_lt (g := gb206) (o := .cells #[.int .i64 x207000_1, .int .i64 x207001_1, .int .i64 x207002_1, .int .i64 x207003_1, .int .i64 x207004_1, .int .i64 x207005_1] 41 (0, 0)) (by (with_reducible repeat (first | refine blk_drewN ?_ _ | refine blk_drew ?_ | refine blk_alloc ?_ _)); exact BK206.out)) : gb206 ≠ gb208)); have n6_ := Aside0.mk ((by rw [hg]; exact Nat.ne_of_gt (blk_lt (g := gb206) (o := .cells #[.int .i64 x207000_1, .int .i64 x207001_1, .int .i64 x207002_1, .int .i64 x207003_1, .int .i64 x207004_1, .int .i64 x207005_1] 41 (0, 0)) (by (with_reducible repeat (first | refine blk_drewN ?_ _ | refine blk_drew ?_ | refine blk_alloc ?_ _)); exact BK206.out)) : gb208 ≠ gb206)); clear BK206; clear HB; have BK206 := n0_; have HB := n1_; have BK208 := n2_; have GW208 := n3_; have GE208 := n4_; have NB206_208 := n5_; have NB208_206 := n6_; clear n0_ n1_ n2_ n3_ n4_ n5_ n6_; clear hb hbox hg; have hnb10 := NB208_206.out; have hnc10 := NB206_208.out; have hcz11_0 : w9.cell? ⟨gb208, 0, none⟩ = some (.int .i64 0) := (blk_cell BK208.out 0).trans rfl; have hcz11_1 : w9.cell? ⟨gb208, 1, none⟩ = some (.int .i64 0) := (blk_cell BK208.out 1).trans rfl; have hcz11_2 : w9.cell? ⟨gb208, 2, none⟩ = some (.int .i64 0) := (blk_cell BK208.out 2).trans rfl; have hcz11_3 : w9.cell? ⟨gb208, 3, none⟩ = some (.int .i64 0) := (blk_cell BK208.out 3).trans rfl; have hcz11_4 : w9.cell? ⟨gb208, 4, none⟩ = some (.int .i64 0) := (blk_cell BK208.out 4).trans rfl; have hcz11_5 : w9.cell? ⟨gb208, 5, none⟩ = some (.int .i64 0) := (blk_cell BK208.out 5).trans rfl; have hfz11_0 := blk_frozen BK208.out 0; have hfz11_1 := blk_frozen BK208.out 1; have hfz11_2 := blk_frozen BK208.out 2; have hfz11_3 := blk_frozen BK208.out 3; have hfz11_4 := blk_frozen BK208.out 4; have hfz11_5 := blk_frozen BK208.out 5; have hcz12_0 : w9.cell? ⟨gb206, 0, none⟩ = some (.int .i64 x207000_1) := (blk_cell BK206.out 0).trans rfl; have hcz12_1 : w9.cell? ⟨gb206, 1, none⟩ = some (.int .i64 x207001_1) := (blk_cell BK206.out 1).trans rfl; have hcz12_2 : w9.cell? ⟨gb206, 2, none⟩ = some (.int .i64 x207002_1) := (blk_cell BK206.out 2).trans rfl; have hcz12_3 : w9.cell? ⟨gb206, 3, none⟩ = some (.int .i64 x207003_1) := (blk_cell BK206.out 3).trans rfl; have hcz12_4 : w9.cell? ⟨gb206, 4, none⟩ = some (.int .i64 x207004_1) := (blk_cell BK206.out 4).trans rfl; have hcz12_5 : w9.cell? ⟨gb206, 5, none⟩ = some (.int .i64 x207005_1) := (blk_cell BK206.out 5).trans rfl; have hfz12_0 := blk_frozen BK206.out 0; have hfz12_1 := blk_frozen BK206.out 1; have hfz12_2 := blk_frozen BK206.out 2; have hfz12_3 := blk_frozen BK206.out 3; have hfz12_4 := blk_frozen BK206.out 4; have hfz12_5 := blk_frozen BK206.out 5))
   refine bodyPost_ret (results_ct rfl _ _ gb206 41 #[.int .i64 ((rd_T41 l0 x10_1).f0), .int .i64 ((rd_T41 l0 x10_1).f1), .int .i64 ((rd_T41 l0 x10_1).f2), .int .i64 ((rd_T41 l0 x10_1).f3), .int .i64 ((rd_T41 l0 x10_1).f4), .int .i64 ((rd_T41 l0 x10_1).f5)] (0, 0) _ rfl (by (with_reducible repeat (first | refine blk_drewN ?_ _ | refine blk_drew ?_ | refine blk_alloc ?_ _)); refine blk_put (cs := #[.int .i64 ((rd_T41 l0 x10_1).f0), .int .i64 ((rd_T41 l0 x10_1).f1), .int .i64 ((rd_T41 l0 x10_1).f2), .int .i64 ((rd_T41 l0 x10_1).f3), .int .i64 ((rd_T41 l0 x10_1).f4), .int .i64 x207005_1]) ?_ 5 _ rfl; (with_reducible repeat (first | refine blk_drewN ?_ _ | refine blk_drew ?_ | refine blk_alloc ?_ _)); refine blk_put (cs := #[.int .i64 ((rd_T41 l0 x10_1).f0), .int .i64 ((rd_T41 l0 x10_1).f1), .int .i64 ((rd_T41 l0 x10_1).f2), .int .i64 ((rd_T41 l0 x10_1).f3), .int .i64 x207004_1, .int .i64 x207005_1]) ?_ 4 _ rfl; (with_reducible repeat (first | refine blk_drewN ?_ _ | refine blk_drew ?_ | refine blk_alloc ?_ _)); refine blk_put (cs := #[.int .i64 ((rd_T41 l0 x10_1).f0), .int .i64 ((rd_T41 l0 x10_1).f1), .int .i64 ((rd_T41 l0 x10_1).f2), .int .i64 x207003_1, .int .i64 x207004_1, .int .i64 x207005_1]) ?_ 3 _ rfl; (with_reducible repeat (first | refine blk_drewN ?_ _ | refine blk_drew ?_ | refine blk_alloc ?_ _)); refine blk_put (cs := #[.int .i64 ((rd_T41 l0 x10_1).f0), .int .i64 ((rd_T41 l0 x10_1).f1), .int .i64 x207002_1, .int .i64 x207003_1, .int .i64 x207004_1, .int .i64 x207005_1]) ?_ 2 _ rfl; (with_reducible repeat (first | refine blk_drewN ?_ _ | refine blk_drew ?_ | refine blk_alloc ?_ _)); refine blk_put (cs := #[.int .i64 ((rd_T41 l0 x10_1).f0), .int .i64 x207001_1, .int .i64 x207002_1, .int .i64 x207003_1, .int .i64 x207004_1, .int .i64 x207005_1]) ?_ 1 _ rfl; (with_reducible repeat (first | refine blk_drewN ?_ _ | refine blk_drew ?_ | refine blk_alloc ?_ _)); refine blk_put (cs := #[.int .i64 x207000_1, .int .i64 x207001_1, .int .i64 x207002_1, .int .i64 x207003_1, .int .i64 x207004_1, .int .i64 x207005_1]) ?_ 0 _ rfl; (with_reducible repeat (first | refine blk_drewN ?_ _ | refine blk_drew ?_ | refine blk_alloc ?_ _)); refine blk_far ?_ NB206_208.out _; (with_reducible repeat (first | refine blk_drewN ?_ _ | refine blk_drew ?_ | refine blk_alloc ?_ _)); refine blk_far ?_ NB206_208.out _; (with_reducible repeat (first | refine blk_drewN ?_ _ | refine blk_drew ?_ | refine blk_alloc ?_ _)); refine blk_far ?_ NB206_208.out _; (with_reducible repeat (first | refine blk_drewN ?_ _ | refine blk_drew ?_ | refine blk_alloc ?_ _)); refine blk_far ?_ NB206_208.out _; (with_reducible repeat (first | refine blk_drewN ?_ _ | refine blk_drew ?_ | refine blk_alloc ?_ _)); refine blk_far ?_ NB206_208.out _; (with_reducible repeat (first | refine blk_drewN ?_ _ | refine blk_drew ?_ | refine blk_alloc ?_ _)); refine blk_far ?_ NB206_208.out _; (with_reducible repeat (first | refine blk_drewN ?_ _ | refine blk_drew ?_ | refine blk_alloc ?_ _)); exact BK206.out) Try.underlying41 rfl (by kernel_rfl)) rfl ?_
   exact ⟨by first | rfl | (simp [errW_none, errW_some] <;> rfl) | (simp [*, errW_none, errW_some] <;> rfl), by repeat (first | (with_reducible first | exact HB.out | apply below_alloc | apply pw_below_drewN | apply below_drew1 | refine below_set ?_ GE206.out | refine below_set ?_ GE208.out) | exact HB.out)⟩

/-! ### region_Gap: function 40 -/
def region_Gap.l0 : Nat → Int → Int → Int → List (S41) → Int → Int → Option (Int × Bool)
  | 0, _, _, _, _, _, _ => none
  | k + 1, x3, x10, x11, x20, x21, x22 => if x22 < x21 then (if 0 ≤ x22 then (if x22 < (x20.length : Int) then (if ((rd_T41 x20 x22).f0) ≥ x10 then (if (wrap64 (((rd_T41 x20 x22).f0) - x10)) ≥ x3 then (if x10 ≥ x11 then (some (0, false)) else (if x3 > (wrap64 (x11 - x10)) then (some (0, false)) else (some (x10, true)))) else (region_Gap.l0 k x3 (mx x10 ((rd_T41 x20 x22).f1)) x11 x20 x21 (wrap64 (x22 + 1)))) else (region_Gap.l0 k x3 (mx x10 ((rd_T41 x20 x22).f1)) x11 x20 x21 (wrap64 (x22 + 1)))) else (none)) else (none)) else (if x10 ≥ x11 then (some (0, false)) else (if x3 > (wrap64 (x11 - x10)) then (some (0, false)) else (some (x10, true))))
def region_Gap.f (k : Nat) (l0 : List (S41)) (a1 : Int) (a2 : Int) (a3 : Int) : Option (Int × Bool) := if a3 < 1 then (some (0, false)) else (region_Gap.l0 k a3 (mx a1 0) (mn a2 4096) l0 (l0.length : Int) 0)
theorem region_Gap.mono_l : ∀ k, (∀ y0 y1 y2 y3 y4 y5, LeO (region_Gap.l0 k y0 y1 y2 y3 y4 y5) (region_Gap.l0 (k + 1) y0 y1 y2 y3 y4 y5))
  | 0 => fun _ _ _ _ _ _ r h => by simp [region_Gap.l0] at h
  | k + 1 => by
    have ih0 := region_Gap.mono_l k
    · intro y0 y1 y2 y3 y4 y5
      unfold region_Gap.l0
      repeat' first
      | (with_reducible exact ih0 _ _ _ _ _ _)
      | (with_reducible exact LeO.refl _)
      | (with_reducible exact LeO.none _)
      | (with_reducible refine LeO.ite ?_ ?_)
      | (with_reducible refine LeO.bind ?_ (fun _ => ?_))
      | exact ih0 _ _ _ _ _ _
      | exact LeO.none _
      | refine LeO.ite ?_ ?_
      | refine LeO.bind ?_ (fun _ => ?_)
theorem region_Gap.mono : ∀ a0 a1 a2 a3 k, LeO (region_Gap.f k a0 a1 a2 a3) (region_Gap.f (k + 1) a0 a1 a2 a3) := by
  intro a0 a1 a2 a3 k
  have ih0 := region_Gap.mono_l k
  unfold region_Gap.f
  repeat' first
      | (with_reducible exact ih0 _ _ _ _ _ _)
      | (with_reducible exact LeO.refl _)
      | (with_reducible exact LeO.none _)
      | (with_reducible refine LeO.ite ?_ ?_)
      | (with_reducible refine LeO.bind ?_ (fun _ => ?_))
      | exact ih0 _ _ _ _ _ _
      | exact LeO.none _
      | refine LeO.ite ?_ ?_
      | refine LeO.bind ?_ (fun _ => ?_)
set_option maxHeartbeats 8000000 in
set_option maxRecDepth 100000 in
theorem region_Gap.calls (k : Nat) (A0 : Option Addr) (c0 : Nat) (l0 : List (S41)) (a1 : Int) (a2 : Int) (a3 : Int) (r1 : Int) (r2 : Bool) (w : World) (hr0 : Kd.C k41 w A0 l0.length l0) (hc0 : l0.length ≤ c0) (h : region_Gap.f k l0 a1 a2 a3 = some (r1, r2)) :
    Calls Try.prog 40 #[.slice A0 l0.length c0, .int .i64 a1, .int .i64 a2, .int .i64 a3] w fun e w' => e = .returned (.tuple #[.int .i64 r1, .bool r2]) ∧ Below w.heap.size w w' := by
 have hu41 := Try.underlying41
 have HR0 := Aside0.mk hr0
 have HC0 := Aside0.mk hc0
 clear hr0 hc0
 have HB := Aside0.mk (Below.refl w.heap.size w)
 have H : (if a3 < 1 then (some (0, false)) else (region_Gap.l0 k a3 (mx a1 0) (mn a2 4096) l0 (l0.length : Int) 0)) = some (r1, r2) := h
 clear h
 obtain ⟨ji5, hji5⟩ : ∃ j_ : Int, (mx a1 0) = j_ := ⟨_, rfl⟩
 replace H : (if a3 < 1 then (some (0, false)) else (region_Gap.l0 k a3 ji5 (mn a2 4096) l0 (l0.length : Int) 0)) = some (r1, r2) := by first | (rw [hji5] at H; exact H) | (simp only [hji5] at H ⊢; exact H)
 (try (have hji5l : 0 ≤ ji5 := by (rw [← hji5]; unfold mx; (repeat' split) <;> omega)))
 (try (have hji5m : 0 ≤ ji5 := by omega))
 have hji5_ : (if a1 < 0 then 0 else a1) = ji5 := hji5
 obtain ⟨ji6, hji6⟩ : ∃ j_ : Int, (mn a2 4096) = j_ := ⟨_, rfl⟩
 replace H : (if a3 < 1 then (some (0, false)) else (region_Gap.l0 k a3 ji5 ji6 l0 (l0.length : Int) 0)) = some (r1, r2) := by first | (rw [hji6] at H; exact H) | (simp only [hji6] at H ⊢; exact H)
 (try (have hji6h : ji6 ≤ 4096 := by (rw [← hji6]; unfold mn; (repeat' split) <;> omega)))
 (try (have hji6g : ji6 ≤ 64 := by omega))
 have hji6_ : (if 4096 < a2 then 4096 else a2) = ji6 := hji6
 by_cases c7 : a3 < 1
 · rw [if_pos c7] at H
   have c7b0 : decide (a3 < 1) = true := decide_eq_true c7
   clear c7
   simp only [Option.some.injEq, Prod.mk.injEq] at H
   obtain ⟨rfl, rfl⟩ := H
   go_enter Try.func40, Try.ntmps40
   go_wp2; try (go_step3; go_wp2; try (go_step3; go_wp2; try (go_step3; go_wp2)))
   try rw [Exit.noGoto_ret]
   go_ret2
   exact ⟨by first | rfl | (simp [errW_none, errW_some] <;> rfl) | (simp only [← hji5, ← hji6]; first | rfl | (simp [errW_none, errW_some] <;> rfl)) | (simp [*, errW_none, errW_some] <;> rfl), by repeat (first | (with_reducible first | exact HB.out | apply below_alloc | apply pw_below_drewN | apply below_drew1) | exact HB.out)⟩
 rw [if_neg c7] at H
 have c7b0 : decide (a3 < 1) = false := decide_eq_false c7
 clear c7
 have H' := Aside0.mk H
 clear H
 go_enter Try.func40, Try.ntmps40
 go_wp2; try (go_step3; go_wp2; try (go_step3; go_wp2; try (go_step3; go_wp2)))
 go_loopg [10, 22] k (fun kq v10 v22 w' => ∃ (x10_1 : Int) (x22_1 : Int), v10 = .int .i64 x10_1 ∧ v22 = .int .i64 x22_1 ∧ Aside0 (region_Gap.l0 kq a3 x10_1 ji6 l0 (l0.length : Int) x22_1 = some (r1, r2)) ∧ Aside0 (kq ≤ k) ∧ Aside0 (Below w.heap.size w w'))
 case atStart => exact ⟨(ji5), (0), (by first | rfl | (simp; done) | (simp only [← hji5] <;> (first | rfl | simp)) | (simp [*]; done)), (by first | rfl | (simp; done) | (simp [*]; done)), H', ⟨Nat.le_refl _⟩, ⟨by repeat (first | (with_reducible first | exact HB.out | apply below_alloc | apply pw_below_drewN | apply below_drew1) | exact HB.out)⟩⟩
 case round =>
  clear H'
  try clear p2
  try clear c4
  try clear c7
  try clear c7b0
  obtain ⟨x10_1, x22_1, rfl, rfl, HA, HK1, HB⟩ := hrel
  cases gk with
  | zero => exact absurd HA.out (by simp [region_Gap.l0])
  | succ k1 =>
   have H := HA.out
   clear HA
   simp only [region_Gap.l0] at H
   by_cases c8 : x22_1 < (l0.length : Int)
   rotate_left
   · rw [if_neg c8] at H
     have c8b0 : decide (x22_1 < (l0.length : Int)) = false := decide_eq_false c8
     clear c8
     by_cases c27 : x10_1 ≥ ji6
     · rw [if_pos c27] at H
       have c27b0 : decide (ji6 ≤ x10_1) = true := decide_eq_true c27
       clear c27
       simp only [Option.some.injEq, Prod.mk.injEq] at H
       obtain ⟨rfl, rfl⟩ := H
       go_wp2; try (go_step3; go_wp2; try (go_step3; go_wp2; try (go_step3; go_wp2)))
       try rw [Exit.noGoto_ret]
       go_ret2
       exact ⟨by first | rfl | (simp [errW_none, errW_some] <;> rfl) | (simp only [← hji5, ← hji6]; first | rfl | (simp [errW_none, errW_some] <;> rfl)) | (simp [*, errW_none, errW_some] <;> rfl), by repeat (first | (with_reducible first | exact HB.out | apply below_alloc | apply pw_below_drewN | apply below_drew1) | exact HB.out)⟩
     rw [if_neg c27] at H
     have c27b0 : decide (ji6 ≤ x10_1) = false := decide_eq_false c27
     clear c27
     by_cases c28 : a3 > (wrap64 (ji6 - x10_1))
     · rw [if_pos c28] at H
       have c28b0 : decide ((wrap64 (ji6 - x10_1)) < a3) = true := decide_eq_true c28
       clear c28
       simp only [Option.some.injEq, Prod.mk.injEq] at H
       obtain ⟨rfl, rfl⟩ := H
       go_wp2; try (go_step3; go_wp2; try (go_step3; go_wp2; try (go_step3; go_wp2)))
       try rw [Exit.noGoto_ret]
       go_ret2
       exact ⟨by first | rfl | (simp [errW_none, errW_some] <;> rfl) | (simp only [← hji5, ← hji6]; first | rfl | (simp [errW_none, errW_some] <;> rfl)) | (simp [*, errW_none, errW_some] <;> rfl), by repeat (first | (with_reducible first | exact HB.out | apply below_alloc | apply pw_below_drewN | apply below_drew1) | exact HB.out)⟩
     rw [if_neg c28] at H
     have c28b0 : decide ((wrap64 (ji6 - x10_1)) < a3) = false := decide_eq_false c28
     clear c28
     simp only [Option.some.injEq, Prod.mk.injEq] at H
     obtain ⟨rfl, rfl⟩ := H
     go_wp2; try (go_step3; go_wp2; try (go_step3; go_wp2; try (go_step3; go_wp2)))
     try rw [Exit.noGoto_ret]
     go_ret2
     exact ⟨by first | rfl | (simp [errW_none, errW_some] <;> rfl) | (simp only [← hji5, ← hji6]; first | rfl | (simp [errW_none, errW_some] <;> rfl)) | (simp [*, errW_none, errW_some] <;> rfl), by repeat (first | (with_reducible first | exact HB.out | apply below_alloc | apply pw_below_drewN | apply below_drew1) | exact HB.out)⟩
   rw [if_pos c8] at H
   have c8b0 : decide (x22_1 < (l0.length : Int)) = true := decide_eq_true c8
   clear c8
   by_cases c9 : 0 ≤ x22_1
   rotate_left
   · rw [if_neg c9] at H
     exact absurd H (by simp)
   rw [if_pos c9] at H
   have c9b0 : decide (0 ≤ x22_1) = true := decide_eq_true c9
   clear c9
   by_cases c10 : x22_1 < (l0.length : Int)
   rotate_left
   · rw [if_neg c10] at H
     exact absurd H (by simp)
   rw [if_pos c10] at H
   have c10b0 : decide (x22_1 < (l0.length : Int)) = true := decide_eq_true c10
   clear c10
   by_cases c11 : ((rd_T41 l0 x22_1).f0) ≥ x10_1
   rotate_left
   · rw [if_neg c11] at H
     have c11b0 : decide (x10_1 ≤ ((rd_T41 l0 x22_1).f0)) = false := decide_eq_false c11
     clear c11
     obtain ⟨ji24, hji24⟩ : ∃ j_ : Int, (mx x10_1 ((rd_T41 l0 x22_1).f1)) = j_ := ⟨_, rfl⟩
     replace H : (region_Gap.l0 k1 a3 ji24 ji6 l0 (l0.length : Int) (wrap64 (x22_1 + 1))) = some (r1, r2) := by first | (rw [hji24] at H; exact H) | (simp only [hji24] at H ⊢; exact H)
     have hji24_ : (if x10_1 < ((rd_T41 l0 x22_1).f1) then ((rd_T41 l0 x22_1).f1) else x10_1) = ji24 := hji24
     have H' := Aside0.mk H
     clear H
     have p209 : 0 ≤ (x22_1 : Int) := of_decide_eq_true (by first | (with_reducible assumption) | assumption)
     have q209 : x22_1 < (l0.length : Int) := of_decide_eq_true (by first | (with_reducible assumption) | assumption)
     obtain ⟨ad209, e209, hx209_0, hx209_1, hx209_2, hx209_3, hx209_4, hx209_5⟩ := at_T41 HR0.out x22_1 p209 q209
     cases e209
     replace hx209_0 := up_ hx209_0 HB.out
     replace hx209_1 := up_ hx209_1 HB.out
     replace hx209_2 := up_ hx209_2 HB.out
     replace hx209_3 := up_ hx209_3 HB.out
     replace hx209_4 := up_ hx209_4 HB.out
     replace hx209_5 := up_ hx209_5 HB.out
     replace p209 := eq_true p209
     replace q209 := eq_true q209
     go_wp2_with (first | ((with_reducible refine gate_dst (N := 13) rfl ?_); refine box_event ?hg (N := 13) ?hd (cs := #[.int .i64 0, .int .i64 0, .int .i64 0, .int .i64 0, .int .i64 0, .int .i64 0]) (t := 41) ?hr ?_; (case hd => rfl); (case hg => rfl); (case hr => first | (go_simp; done) | (go_simp; rfl)); intro gb210 hg w25 hbox hb; have n0_ := Aside0.mk (below_step (by repeat (first | (with_reducible first | exact HB.out | apply below_alloc | apply pw_below_drewN | apply below_drew1) | exact HB.out)) hb); have n1_ := Aside0.mk (hbox); have n2_ := Aside0.mk ((by rw [hg]; exact (below_size (by repeat (first | (with_reducible first | exact HB.out | apply below_alloc | apply pw_below_drewN | apply below_drew1) | exact HB.out))) : w.heap.size ≤ gb210)); have n3_ := Aside0.mk ((by rw [hg]; exact (below_size (by repeat (first | (with_reducible first | exact HB.out | apply below_alloc | apply pw_below_drewN | apply below_drew1) | exact HB.out))) : w.heap.size ≤ gb210)); clear HB; have HB := n0_; have BK210 := n1_; have GW210 := n2_; have GE210 := n3_; clear n0_ n1_ n2_ n3_; clear hb hbox hg; have hcz26_0 : w25.cell? ⟨gb210, 0, none⟩ = some (.int .i64 0) := (blk_cell BK210.out 0).trans rfl; have hcz26_1 : w25.cell? ⟨gb210, 1, none⟩ = some (.int .i64 0) := (blk_cell BK210.out 1).trans rfl; have hcz26_2 : w25.cell? ⟨gb210, 2, none⟩ = some (.int .i64 0) := (blk_cell BK210.out 2).trans rfl; have hcz26_3 : w25.cell? ⟨gb210, 3, none⟩ = some (.int .i64 0) := (blk_cell BK210.out 3).trans rfl; have hcz26_4 : w25.cell? ⟨gb210, 4, none⟩ = some (.int .i64 0) := (blk_cell BK210.out 4).trans rfl; have hcz26_5 : w25.cell? ⟨gb210, 5, none⟩ = some (.int .i64 0) := (blk_cell BK210.out 5).trans rfl; have hfz26_0 := blk_frozen BK210.out 0; have hfz26_1 := blk_frozen BK210.out 1; have hfz26_2 := blk_frozen BK210.out 2; have hfz26_3 := blk_frozen BK210.out 3; have hfz26_4 := blk_frozen BK210.out 4; have hfz26_5 := blk_frozen BK210.out 5))
     go_roundg k1
     case measure => have := HK1.out; omega
     case rel => exact ⟨(ji24), (wrap64 (x22_1 + 1)), (by first | rfl | (simp; done) | (simp only [← hji24] <;> (first | rfl | simp)) | (simp [*]; done)), (by first | rfl | (simp; done) | (simp [*]; done)), H', ⟨by have := HK1.out; omega⟩, ⟨by repeat (first | (with_reducible first | exact HB.out | apply below_alloc | apply pw_below_drewN | apply below_drew1 | refine below_set ?_ GE210.out) | exact HB.out)⟩⟩
   rw [if_pos c11] at H
   have c11b0 : decide (x10_1 ≤ ((rd_T41 l0 x22_1).f0)) = true := decide_eq_true c11
   clear c11
   by_cases c12 : (wrap64 (((rd_T41 l0 x22_1).f0) - x10_1)) ≥ a3
   rotate_left
   · rw [if_neg c12] at H
     have c12b0 : decide (a3 ≤ (wrap64 (((rd_T41 l0 x22_1).f0) - x10_1))) = false := decide_eq_false c12
     clear c12
     obtain ⟨ji21, hji21⟩ : ∃ j_ : Int, (mx x10_1 ((rd_T41 l0 x22_1).f1)) = j_ := ⟨_, rfl⟩
     replace H : (region_Gap.l0 k1 a3 ji21 ji6 l0 (l0.length : Int) (wrap64 (x22_1 + 1))) = some (r1, r2) := by first | (rw [hji21] at H; exact H) | (simp only [hji21] at H ⊢; exact H)
     have hji21_ : (if x10_1 < ((rd_T41 l0 x22_1).f1) then ((rd_T41 l0 x22_1).f1) else x10_1) = ji21 := hji21
     have H' := Aside0.mk H
     clear H
     have p209 : 0 ≤ (x22_1 : Int) := of_decide_eq_true (by first | (with_reducible assumption) | assumption)
     have q209 : x22_1 < (l0.length : Int) := of_decide_eq_true (by first | (with_reducible assumption) | assumption)
     obtain ⟨ad209, e209, hx209_0, hx209_1, hx209_2, hx209_3, hx209_4, hx209_5⟩ := at_T41 HR0.out x22_1 p209 q209
     cases e209
     replace hx209_0 := up_ hx209_0 HB.out
     replace hx209_1 := up_ hx209_1 HB.out
     replace hx209_2 := up_ hx209_2 HB.out
     replace hx209_3 := up_ hx209_3 HB.out
     replace hx209_4 := up_ hx209_4 HB.out
     replace hx209_5 := up_ hx209_5 HB.out
     replace p209 := eq_true p209
     replace q209 := eq_true q209
     go_wp2_with (first | ((with_reducible refine gate_dst (N := 13) rfl ?_); refine box_event ?hg (N := 13) ?hd (cs := #[.int .i64 0, .int .i64 0, .int .i64 0, .int .i64 0, .int .i64 0, .int .i64 0]) (t := 41) ?hr ?_; (case hd => rfl); (case hg => rfl); (case hr => first | (go_simp; done) | (go_simp; rfl)); intro gb210 hg w22 hbox hb; have n0_ := Aside0.mk (below_step (by repeat (first | (with_reducible first | exact HB.out | apply below_alloc | apply pw_below_drewN | apply below_drew1) | exact HB.out)) hb); have n1_ := Aside0.mk (hbox); have n2_ := Aside0.mk ((by rw [hg]; exact (below_size (by repeat (first | (with_reducible first | exact HB.out | apply below_alloc | apply pw_below_drewN | apply below_drew1) | exact HB.out))) : w.heap.size ≤ gb210)); have n3_ := Aside0.mk ((by rw [hg]; exact (below_size (by repeat (first | (with_reducible first | exact HB.out | apply below_alloc | apply pw_below_drewN | apply below_drew1) | exact HB.out))) : w.heap.size ≤ gb210)); clear HB; have HB := n0_; have BK210 := n1_; have GW210 := n2_; have GE210 := n3_; clear n0_ n1_ n2_ n3_; clear hb hbox hg; have hcz23_0 : w22.cell? ⟨gb210, 0, none⟩ = some (.int .i64 0) := (blk_cell BK210.out 0).trans rfl; have hcz23_1 : w22.cell? ⟨gb210, 1, none⟩ = some (.int .i64 0) := (blk_cell BK210.out 1).trans rfl; have hcz23_2 : w22.cell? ⟨gb210, 2, none⟩ = some (.int .i64 0) := (blk_cell BK210.out 2).trans rfl; have hcz23_3 : w22.cell? ⟨gb210, 3, none⟩ = some (.int .i64 0) := (blk_cell BK210.out 3).trans rfl; have hcz23_4 : w22.cell? ⟨gb210, 4, none⟩ = some (.int .i64 0) := (blk_cell BK210.out 4).trans rfl; have hcz23_5 : w22.cell? ⟨gb210, 5, none⟩ = some (.int .i64 0) := (blk_cell BK210.out 5).trans rfl; have hfz23_0 := blk_frozen BK210.out 0; have hfz23_1 := blk_frozen BK210.out 1; have hfz23_2 := blk_frozen BK210.out 2; have hfz23_3 := blk_frozen BK210.out 3; have hfz23_4 := blk_frozen BK210.out 4; have hfz23_5 := blk_frozen BK210.out 5))
     go_roundg k1
     case measure => have := HK1.out; omega
     case rel => exact ⟨(ji21), (wrap64 (x22_1 + 1)), (by first | rfl | (simp; done) | (simp only [← hji21] <;> (first | rfl | simp)) | (simp [*]; done)), (by first | rfl | (simp; done) | (simp [*]; done)), H', ⟨by have := HK1.out; omega⟩, ⟨by repeat (first | (with_reducible first | exact HB.out | apply below_alloc | apply pw_below_drewN | apply below_drew1 | refine below_set ?_ GE210.out) | exact HB.out)⟩⟩
   rw [if_pos c12] at H
   have c12b0 : decide (a3 ≤ (wrap64 (((rd_T41 l0 x22_1).f0) - x10_1))) = true := decide_eq_true c12
   clear c12
   by_cases c13 : x10_1 ≥ ji6
   · rw [if_pos c13] at H
     have c13b0 : decide (ji6 ≤ x10_1) = true := decide_eq_true c13
     clear c13
     simp only [Option.some.injEq, Prod.mk.injEq] at H
     obtain ⟨rfl, rfl⟩ := H
     have p209 : 0 ≤ (x22_1 : Int) := of_decide_eq_true (by first | (with_reducible assumption) | assumption)
     have q209 : x22_1 < (l0.length : Int) := of_decide_eq_true (by first | (with_reducible assumption) | assumption)
     obtain ⟨ad209, e209, hx209_0, hx209_1, hx209_2, hx209_3, hx209_4, hx209_5⟩ := at_T41 HR0.out x22_1 p209 q209
     cases e209
     replace hx209_0 := up_ hx209_0 HB.out
     replace hx209_1 := up_ hx209_1 HB.out
     replace hx209_2 := up_ hx209_2 HB.out
     replace hx209_3 := up_ hx209_3 HB.out
     replace hx209_4 := up_ hx209_4 HB.out
     replace hx209_5 := up_ hx209_5 HB.out
     replace p209 := eq_true p209
     replace q209 := eq_true q209
     go_wp2_with (first | ((with_reducible refine gate_dst (N := 13) rfl ?_); refine box_event ?hg (N := 13) ?hd (cs := #[.int .i64 0, .int .i64 0, .int .i64 0, .int .i64 0, .int .i64 0, .int .i64 0]) (t := 41) ?hr ?_; (case hd => rfl); (case hg => rfl); (case hr => first | (go_simp; done) | (go_simp; rfl)); intro gb210 hg w14 hbox hb; have n0_ := Aside0.mk (below_step (by repeat (first | (with_reducible first | exact HB.out | apply below_alloc | apply pw_below_drewN | apply below_drew1) | exact HB.out)) hb); have n1_ := Aside0.mk (hbox); have n2_ := Aside0.mk ((by rw [hg]; exact (below_size (by repeat (first | (with_reducible first | exact HB.out | apply below_alloc | apply pw_below_drewN | apply below_drew1) | exact HB.out))) : w.heap.size ≤ gb210)); have n3_ := Aside0.mk ((by rw [hg]; exact (below_size (by repeat (first | (with_reducible first | exact HB.out | apply below_alloc | apply pw_below_drewN | apply below_drew1) | exact HB.out))) : w.heap.size ≤ gb210)); clear HB; have HB := n0_; have BK210 := n1_; have GW210 := n2_; have GE210 := n3_; clear n0_ n1_ n2_ n3_; clear hb hbox hg; have hcz15_0 : w14.cell? ⟨gb210, 0, none⟩ = some (.int .i64 0) := (blk_cell BK210.out 0).trans rfl; have hcz15_1 : w14.cell? ⟨gb210, 1, none⟩ = some (.int .i64 0) := (blk_cell BK210.out 1).trans rfl; have hcz15_2 : w14.cell? ⟨gb210, 2, none⟩ = some (.int .i64 0) := (blk_cell BK210.out 2).trans rfl; have hcz15_3 : w14.cell? ⟨gb210, 3, none⟩ = some (.int .i64 0) := (blk_cell BK210.out 3).trans rfl; have hcz15_4 : w14.cell? ⟨gb210, 4, none⟩ = some (.int .i64 0) := (blk_cell BK210.out 4).trans rfl; have hcz15_5 : w14.cell? ⟨gb210, 5, none⟩ = some (.int .i64 0) := (blk_cell BK210.out 5).trans rfl; have hfz15_0 := blk_frozen BK210.out 0; have hfz15_1 := blk_frozen BK210.out 1; have hfz15_2 := blk_frozen BK210.out 2; have hfz15_3 := blk_frozen BK210.out 3; have hfz15_4 := blk_frozen BK210.out 4; have hfz15_5 := blk_frozen BK210.out 5))
     try rw [Exit.noGoto_ret]
     go_ret2
     exact ⟨by first | rfl | (simp [errW_none, errW_some] <;> rfl) | (simp only [← hji5, ← hji6]; first | rfl | (simp [errW_none, errW_some] <;> rfl)) | (simp [*, errW_none, errW_some] <;> rfl), by repeat (first | (with_reducible first | exact HB.out | apply below_alloc | apply pw_below_drewN | apply below_drew1 | refine below_set ?_ GE210.out) | exact HB.out)⟩
   rw [if_neg c13] at H
   have c13b0 : decide (ji6 ≤ x10_1) = false := decide_eq_false c13
   clear c13
   by_cases c16 : a3 > (wrap64 (ji6 - x10_1))
   · rw [if_pos c16] at H
     have c16b0 : decide ((wrap64 (ji6 - x10_1)) < a3) = true := decide_eq_true c16
     clear c16
     simp only [Option.some.injEq, Prod.mk.injEq] at H
     obtain ⟨rfl, rfl⟩ := H
     have p209 : 0 ≤ (x22_1 : Int) := of_decide_eq_true (by first | (with_reducible assumption) | assumption)
     have q209 : x22_1 < (l0.length : Int) := of_decide_eq_true (by first | (with_reducible assumption) | assumption)
     obtain ⟨ad209, e209, hx209_0, hx209_1, hx209_2, hx209_3, hx209_4, hx209_5⟩ := at_T41 HR0.out x22_1 p209 q209
     cases e209
     replace hx209_0 := up_ hx209_0 HB.out
     replace hx209_1 := up_ hx209_1 HB.out
     replace hx209_2 := up_ hx209_2 HB.out
     replace hx209_3 := up_ hx209_3 HB.out
     replace hx209_4 := up_ hx209_4 HB.out
     replace hx209_5 := up_ hx209_5 HB.out
     replace p209 := eq_true p209
     replace q209 := eq_true q209
     go_wp2_with (first | ((with_reducible refine gate_dst (N := 13) rfl ?_); refine box_event ?hg (N := 13) ?hd (cs := #[.int .i64 0, .int .i64 0, .int .i64 0, .int .i64 0, .int .i64 0, .int .i64 0]) (t := 41) ?hr ?_; (case hd => rfl); (case hg => rfl); (case hr => first | (go_simp; done) | (go_simp; rfl)); intro gb210 hg w17 hbox hb; have n0_ := Aside0.mk (below_step (by repeat (first | (with_reducible first | exact HB.out | apply below_alloc | apply pw_below_drewN | apply below_drew1) | exact HB.out)) hb); have n1_ := Aside0.mk (hbox); have n2_ := Aside0.mk ((by rw [hg]; exact (below_size (by repeat (first | (with_reducible first | exact HB.out | apply below_alloc | apply pw_below_drewN | apply below_drew1) | exact HB.out))) : w.heap.size ≤ gb210)); have n3_ := Aside0.mk ((by rw [hg]; exact (below_size (by repeat (first | (with_reducible first | exact HB.out | apply below_alloc | apply pw_below_drewN | apply below_drew1) | exact HB.out))) : w.heap.size ≤ gb210)); clear HB; have HB := n0_; have BK210 := n1_; have GW210 := n2_; have GE210 := n3_; clear n0_ n1_ n2_ n3_; clear hb hbox hg; have hcz18_0 : w17.cell? ⟨gb210, 0, none⟩ = some (.int .i64 0) := (blk_cell BK210.out 0).trans rfl; have hcz18_1 : w17.cell? ⟨gb210, 1, none⟩ = some (.int .i64 0) := (blk_cell BK210.out 1).trans rfl; have hcz18_2 : w17.cell? ⟨gb210, 2, none⟩ = some (.int .i64 0) := (blk_cell BK210.out 2).trans rfl; have hcz18_3 : w17.cell? ⟨gb210, 3, none⟩ = some (.int .i64 0) := (blk_cell BK210.out 3).trans rfl; have hcz18_4 : w17.cell? ⟨gb210, 4, none⟩ = some (.int .i64 0) := (blk_cell BK210.out 4).trans rfl; have hcz18_5 : w17.cell? ⟨gb210, 5, none⟩ = some (.int .i64 0) := (blk_cell BK210.out 5).trans rfl; have hfz18_0 := blk_frozen BK210.out 0; have hfz18_1 := blk_frozen BK210.out 1; have hfz18_2 := blk_frozen BK210.out 2; have hfz18_3 := blk_frozen BK210.out 3; have hfz18_4 := blk_frozen BK210.out 4; have hfz18_5 := blk_frozen BK210.out 5))
     try rw [Exit.noGoto_ret]
     go_ret2
     exact ⟨by first | rfl | (simp [errW_none, errW_some] <;> rfl) | (simp only [← hji5, ← hji6]; first | rfl | (simp [errW_none, errW_some] <;> rfl)) | (simp [*, errW_none, errW_some] <;> rfl), by repeat (first | (with_reducible first | exact HB.out | apply below_alloc | apply pw_below_drewN | apply below_drew1 | refine below_set ?_ GE210.out) | exact HB.out)⟩
   rw [if_neg c16] at H
   have c16b0 : decide ((wrap64 (ji6 - x10_1)) < a3) = false := decide_eq_false c16
   clear c16
   simp only [Option.some.injEq, Prod.mk.injEq] at H
   obtain ⟨rfl, rfl⟩ := H
   have p209 : 0 ≤ (x22_1 : Int) := of_decide_eq_true (by first | (with_reducible assumption) | assumption)
   have q209 : x22_1 < (l0.length : Int) := of_decide_eq_true (by first | (with_reducible assumption) | assumption)
   obtain ⟨ad209, e209, hx209_0, hx209_1, hx209_2, hx209_3, hx209_4, hx209_5⟩ := at_T41 HR0.out x22_1 p209 q209
   cases e209
   replace hx209_0 := up_ hx209_0 HB.out
   replace hx209_1 := up_ hx209_1 HB.out
   replace hx209_2 := up_ hx209_2 HB.out
   replace hx209_3 := up_ hx209_3 HB.out
   replace hx209_4 := up_ hx209_4 HB.out
   replace hx209_5 := up_ hx209_5 HB.out
   replace p209 := eq_true p209
   replace q209 := eq_true q209
   go_wp2_with (first | ((with_reducible refine gate_dst (N := 13) rfl ?_); refine box_event ?hg (N := 13) ?hd (cs := #[.int .i64 0, .int .i64 0, .int .i64 0, .int .i64 0, .int .i64 0, .int .i64 0]) (t := 41) ?hr ?_; (case hd => rfl); (case hg => rfl); (case hr => first | (go_simp; done) | (go_simp; rfl)); intro gb210 hg w19 hbox hb; have n0_ := Aside0.mk (below_step (by repeat (first | (with_reducible first | exact HB.out | apply below_alloc | apply pw_below_drewN | apply below_drew1) | exact HB.out)) hb); have n1_ := Aside0.mk (hbox); have n2_ := Aside0.mk ((by rw [hg]; exact (below_size (by repeat (first | (with_reducible first | exact HB.out | apply below_alloc | apply pw_below_drewN | apply below_drew1) | exact HB.out))) : w.heap.size ≤ gb210)); have n3_ := Aside0.mk ((by rw [hg]; exact (below_size (by repeat (first | (with_reducible first | exact HB.out | apply below_alloc | apply pw_below_drewN | apply below_drew1) | exact HB.out))) : w.heap.size ≤ gb210)); clear HB; have HB := n0_; have BK210 := n1_; have GW210 := n2_; have GE210 := n3_; clear n0_ n1_ n2_ n3_; clear hb hbox hg; have hcz20_0 : w19.cell? ⟨gb210, 0, none⟩ = some (.int .i64 0) := (blk_cell BK210.out 0).trans rfl; have hcz20_1 : w19.cell? ⟨gb210, 1, none⟩ = some (.int .i64 0) := (blk_cell BK210.out 1).trans rfl; have hcz20_2 : w19.cell? ⟨gb210, 2, none⟩ = some (.int .i64 0) := (blk_cell BK210.out 2).trans rfl; have hcz20_3 : w19.cell? ⟨gb210, 3, none⟩ = some (.int .i64 0) := (blk_cell BK210.out 3).trans rfl; have hcz20_4 : w19.cell? ⟨gb210, 4, none⟩ = some (.int .i64 0) := (blk_cell BK210.out 4).trans rfl; have hcz20_5 : w19.cell? ⟨gb210, 5, none⟩ = some (.int .i64 0) := (blk_cell BK210.out 5).trans rfl; have hfz20_0 := blk_frozen BK210.out 0; have hfz20_1 := blk_frozen BK210.out 1; have hfz20_2 := blk_frozen BK210.out 2; have hfz20_3 := blk_frozen BK210.out 3; have hfz20_4 := blk_frozen BK210.out 4; have hfz20_5 := blk_frozen BK210.out 5))
   try rw [Exit.noGoto_ret]
   go_ret2
   exact ⟨by first | rfl | (simp [errW_none, errW_some] <;> rfl) | (simp only [← hji5, ← hji6]; first | rfl | (simp [errW_none, errW_some] <;> rfl)) | (simp [*, errW_none, errW_some] <;> rfl), by repeat (first | (with_reducible first | exact HB.out | apply below_alloc | apply pw_below_drewN | apply below_drew1 | refine below_set ?_ GE210.out) | exact HB.out)⟩

end Go.Proofs.Ytafmeagfockdfaa.Rg
