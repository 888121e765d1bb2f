-- Written by prn.py, a program of this session over the kit's printer. Not trusted: Lean checks it.
import Derived.Test.YtafmeagfockdfaaRg0
import Derived.Test.YtafmeagfockdfaaRg3
import Derived.Test.YtafmeagfockdfaaRg6d
import Derived.Test.YtafmeagfockdfaaSq
namespace Go.Proofs.Ytafmeagfockdfaa.Rg
open Go.Proofs.Ytafmeagfockdfaa.Sq
open Go.RowKit Go.Proofs.YtafmeagfockdfaaW.PrintWords Go.Proofs.YtafmeagfockdfaaW.PrintLast Go.Proofs.YtafmeagfockdfaaW.PrintMore
attribute [local go_sem] max2_int min2_int max_two min_two max_three min_three max_four min_four   -- for this text's walks alone
set_option linter.unusedVariables false
set_option linter.unusedSimpArgs false

def region_Check.T4 : Bool × List (List Nat × List Nat) := (true, [([], []), ([0], [0]), ([1], [1]), ([2, 1], [2]), ([3], [3]), ([4, 3], [3, 4]), ([5, 3, 3], [3, 5]), ([6], [6]), ([7, 6], [6, 7]), ([6], [6]), ([6], [6]), ([10, 6], [6, 10]), ([9, 11, 6], [6, 9, 11]), ([12, 6], [6, 12]), ([13, 6], [6, 13]), ([8, 14, 6], [6, 8, 14]), ([15, 6, 6], [6, 15]), ([16], [16]), ([16], [16]), ([18, 16], [16, 18]), ([17, 19, 16], [16, 17, 19]), ([20, 16], [16, 20]), ([16], [16]), ([21, 22, 16, 16], [16, 21, 22]), ([16, 23, 6], [6, 16, 23]), ([6, 24, 3], [3, 6, 24]), ([3, 25], [3, 25])])
def region_Check.B4 : List Nat := [0, 1, 3, 7, 15, 31, 63, 127, 255, 127, 127, 1151, 3711, 7807, 15999, 32767, 65535, 131071, 131071, 393215, 1048575, 2097151, 131071, 8388607, 16777215, 33554431, 67108863]
theorem region_Check.tab4 : rtab .any (opsOf Try.f25 4) = region_Check.T4 := by kernel_rfl
theorem region_Check.bits4 : waitsOk region_Check.T4.2 region_Check.B4 = true := by kernel_rfl
set_option maxHeartbeats 8000000 in
set_option maxRecDepth 100000 in
theorem region_Check.calls (k : Nat) (A0 : Option Addr) (c0 : Nat) (l0 : List (S41)) (r : Int) (w : World) (hr0 : Kd.C k41 w A0 l0.length l0) (hc0 : l0.length ≤ c0) (h : region_Check.f k l0 = some r) :
    Calls Try.prog 25 #[.slice A0 l0.length c0] w fun e w' => e = .returned (.int .i64 r) ∧ Below w.heap.size w w' := by
 have hu41 := Try.underlying41
 have HR0 := Aside0.mk hr0
 have HC0 := Aside0.mk hc0
 clear hr0 hc0
 have HB := Aside0.mk (Below.refl w.heap.size w)
 have H : (region_Check.l0 k l0 l0 (l0.length : Int) 0) = some r := h
 clear h
 have H' := Aside0.mk H
 clear H
 go_enter Try.func25, Try.ntmps25
 go_wp2
 go_loopg [7] k (fun kq v7 w' => ∃ (x7_1 : Int), v7 = .int .i64 x7_1 ∧ Aside0 (region_Check.l0 kq l0 l0 (l0.length : Int) x7_1 = some r) ∧ Aside0 (kq ≤ k) ∧ Aside0 (Below w.heap.size w w'))
 case atStart => exact ⟨(0), (by first | rfl | (simp; done) | (simp [*]; done)), H', ⟨Nat.le_refl _⟩, ⟨by repeat (first | (with_reducible first | exact HB.out | apply below_alloc | apply pw_below_drewN | apply below_drew1) | exact HB.out)⟩⟩
 case round =>
  clear H'
  obtain ⟨x7_1, rfl, HA, HK1, HB⟩ := hrel
  cases gk with
  | zero => exact absurd HA.out (by simp [region_Check.l0])
  | succ k1 =>
   have H := HA.out
   clear HA
   simp only [region_Check.l0] at H
   by_cases c2 : x7_1 < (l0.length : Int)
   rotate_left
   · rw [if_neg c2] at H
     have c2b0 : decide (x7_1 < (l0.length : Int)) = false := decide_eq_false c2
     clear c2
     obtain rfl := Option.some.inj H
     go_wp2
     go_ret
     exact ⟨by first | rfl | (simp [errW_none, errW_some] <;> rfl) | (simp [*, errW_none, errW_some] <;> rfl), by repeat (first | (with_reducible first | exact HB.out | apply below_alloc | apply pw_below_drewN | apply below_drew1) | exact HB.out)⟩
   rw [if_pos c2] at H
   have c2b0 : decide (x7_1 < (l0.length : Int)) = true := decide_eq_true c2
   clear c2
   by_cases c3 : 0 ≤ x7_1
   rotate_left
   · rw [if_neg c3] at H
     exact absurd H (by simp)
   rw [if_pos c3] at H
   have c3b0 : decide (0 ≤ x7_1) = true := decide_eq_true c3
   clear c3
   by_cases c4 : x7_1 < (l0.length : Int)
   rotate_left
   · rw [if_neg c4] at H
     exact absurd H (by simp)
   rw [if_pos c4] at H
   have c4b0 : decide (x7_1 < (l0.length : Int)) = true := decide_eq_true c4
   clear c4
   replace H := Option.bind_eq_some_iff.mp H
   obtain ⟨t125, A50, H⟩ := H
   replace H : (if t125 = true then (if x7_1 > 0 then (if 0 ≤ (wrap64 (x7_1 - 1)) then (if (wrap64 (x7_1 - 1)) < (l0.length : Int) then (if ((rd_T41 l0 x7_1).f0) < ((rd_T41 l0 (wrap64 (x7_1 - 1))).f1) then (some 1) else ((region_one.f ((rd_T41 l0 (wrap64 (x7_1 - 1))).f0) ((rd_T41 l0 (wrap64 (x7_1 - 1))).f1) ((rd_T41 l0 (wrap64 (x7_1 - 1))).f2) ((rd_T41 l0 (wrap64 (x7_1 - 1))).f3) ((rd_T41 l0 (wrap64 (x7_1 - 1))).f4) ((rd_T41 l0 (wrap64 (x7_1 - 1))).f5) ((rd_T41 l0 x7_1).f0) ((rd_T41 l0 x7_1).f1) ((rd_T41 l0 x7_1).f2) ((rd_T41 l0 x7_1).f3) ((rd_T41 l0 x7_1).f4) ((rd_T41 l0 x7_1).f5)).bind fun t128 => (if t128 = true then (some 1) else (region_Check.l0 k1 l0 l0 (l0.length : Int) (wrap64 (x7_1 + 1)))))) else (none)) else (none)) else (region_Check.l0 k1 l0 l0 (l0.length : Int) (wrap64 (x7_1 + 1)))) else (some 1)) = some r := H
   have A5 := Aside0.mk A50
   clear A50
   by_cases c6 : t125 = true
   rotate_left
   · replace c6 := Bool.eq_false_iff.mpr c6
     subst c6
     have H1 : (some 1) = some r := by rw [if_neg (show ¬ (false = true) by decide)] at H; exact H
     clear H
     have H := H1
     clear H1
     obtain rfl := Option.some.inj H
     have p123 : 0 ≤ (x7_1 : Int) := of_decide_eq_true (by first | (with_reducible assumption) | assumption)
     have q123 : x7_1 < (l0.length : Int) := of_decide_eq_true (by first | (with_reducible assumption) | assumption)
     obtain ⟨ad123, e123, hx123_0, hx123_1, hx123_2, hx123_3, hx123_4, hx123_5⟩ := at_T41 HR0.out x7_1 p123 q123
     cases e123
     replace hx123_0 := up_ hx123_0 HB.out
     replace hx123_1 := up_ hx123_1 HB.out
     replace hx123_2 := up_ hx123_2 HB.out
     replace hx123_3 := up_ hx123_3 HB.out
     replace hx123_4 := up_ hx123_4 HB.out
     replace hx123_5 := up_ hx123_5 HB.out
     replace p123 := eq_true p123
     replace q123 := eq_true q123
     try go_wp2_with (first | ((with_reducible refine gate_dst (N := 4) rfl ?_); refine box_event ?hg (N := 4) ?hd (cs := #[.int .i64 0, .int .i64 0, .int .i64 0, .int .i64 0, .int .i64 0, .int .i64 0]) (t := 41) ?hr ?_; (case hd => rfl); (case hg => rfl); (case hr => first | (go_simp; done) | (go_simp; rfl)); intro gb124 hg w36 hbox hb; have n0_ := Aside0.mk (below_step (by repeat (first | (with_reducible first | exact HB.out | apply below_alloc | apply pw_below_drewN | apply below_drew1) | exact HB.out)) hb); have n1_ := Aside0.mk (hbox); have n2_ := Aside0.mk ((by rw [hg]; exact (below_size (by repeat (first | (with_reducible first | exact HB.out | apply below_alloc | apply pw_below_drewN | apply below_drew1) | exact HB.out))) : w.heap.size ≤ gb124)); have n3_ := Aside0.mk ((by rw [hg]; exact (below_size (by repeat (first | (with_reducible first | exact HB.out | apply below_alloc | apply pw_below_drewN | apply below_drew1) | exact HB.out))) : w.heap.size ≤ gb124)); clear HB; have HB := n0_; have BK124 := n1_; have GW124 := n2_; have GE124 := n3_; clear n0_ n1_ n2_ n3_; clear hb hbox hg; have hcz37_0 : w36.cell? ⟨gb124, 0, none⟩ = some (.int .i64 0) := (blk_cell BK124.out 0).trans rfl; have hcz37_1 : w36.cell? ⟨gb124, 1, none⟩ = some (.int .i64 0) := (blk_cell BK124.out 1).trans rfl; have hcz37_2 : w36.cell? ⟨gb124, 2, none⟩ = some (.int .i64 0) := (blk_cell BK124.out 2).trans rfl; have hcz37_3 : w36.cell? ⟨gb124, 3, none⟩ = some (.int .i64 0) := (blk_cell BK124.out 3).trans rfl; have hcz37_4 : w36.cell? ⟨gb124, 4, none⟩ = some (.int .i64 0) := (blk_cell BK124.out 4).trans rfl; have hcz37_5 : w36.cell? ⟨gb124, 5, none⟩ = some (.int .i64 0) := (blk_cell BK124.out 5).trans rfl; have hfz37_0 := blk_frozen BK124.out 0; have hfz37_1 := blk_frozen BK124.out 1; have hfz37_2 := blk_frozen BK124.out 2; have hfz37_3 := blk_frozen BK124.out 3; have hfz37_4 := blk_frozen BK124.out 4; have hfz37_5 := blk_frozen BK124.out 5))
     have n0_ : Aside0 (((((((w36.setCell ⟨gb124, 0, none⟩ (.int .i64 ((rd_T41 l0 x7_1).f0))).setCell ⟨gb124, 1, none⟩ (.int .i64 ((rd_T41 l0 x7_1).f1))).setCell ⟨gb124, 2, none⟩ (.int .i64 ((rd_T41 l0 x7_1).f2))).setCell ⟨gb124, 3, none⟩ (.int .i64 ((rd_T41 l0 x7_1).f3))).setCell ⟨gb124, 4, none⟩ (.int .i64 ((rd_T41 l0 x7_1).f4))).setCell ⟨gb124, 5, none⟩ (.int .i64 ((rd_T41 l0 x7_1).f5))).heap[gb124]? = some (.cells #[.int .i64 ((rd_T41 l0 x7_1).f0), .int .i64 ((rd_T41 l0 x7_1).f1), .int .i64 ((rd_T41 l0 x7_1).f2), .int .i64 ((rd_T41 l0 x7_1).f3), .int .i64 ((rd_T41 l0 x7_1).f4), .int .i64 ((rd_T41 l0 x7_1).f5)] 41 (0, 0))) := ⟨by (with_reducible repeat (first | refine blk_drewN ?_ _ | refine blk_drew ?_ | refine blk_alloc ?_ _)); refine blk_put (cs := #[.int .i64 ((rd_T41 l0 x7_1).f0), .int .i64 ((rd_T41 l0 x7_1).f1), .int .i64 ((rd_T41 l0 x7_1).f2), .int .i64 ((rd_T41 l0 x7_1).f3), .int .i64 ((rd_T41 l0 x7_1).f4), .int .i64 0]) ?_ 5 _ rfl; (with_reducible repeat (first | refine blk_drewN ?_ _ | refine blk_drew ?_ | refine blk_alloc ?_ _)); refine blk_put (cs := #[.int .i64 ((rd_T41 l0 x7_1).f0), .int .i64 ((rd_T41 l0 x7_1).f1), .int .i64 ((rd_T41 l0 x7_1).f2), .int .i64 ((rd_T41 l0 x7_1).f3), .int .i64 0, .int .i64 0]) ?_ 4 _ rfl; (with_reducible repeat (first | refine blk_drewN ?_ _ | refine blk_drew ?_ | refine blk_alloc ?_ _)); refine blk_put (cs := #[.int .i64 ((rd_T41 l0 x7_1).f0), .int .i64 ((rd_T41 l0 x7_1).f1), .int .i64 ((rd_T41 l0 x7_1).f2), .int .i64 0, .int .i64 0, .int .i64 0]) ?_ 3 _ rfl; (with_reducible repeat (first | refine blk_drewN ?_ _ | refine blk_drew ?_ | refine blk_alloc ?_ _)); refine blk_put (cs := #[.int .i64 ((rd_T41 l0 x7_1).f0), .int .i64 ((rd_T41 l0 x7_1).f1), .int .i64 0, .int .i64 0, .int .i64 0, .int .i64 0]) ?_ 2 _ rfl; (with_reducible repeat (first | refine blk_drewN ?_ _ | refine blk_drew ?_ | refine blk_alloc ?_ _)); refine blk_put (cs := #[.int .i64 ((rd_T41 l0 x7_1).f0), .int .i64 0, .int .i64 0, .int .i64 0, .int .i64 0, .int .i64 0]) ?_ 1 _ rfl; (with_reducible repeat (first | refine blk_drewN ?_ _ | refine blk_drew ?_ | refine blk_alloc ?_ _)); refine blk_put (cs := #[.int .i64 0, .int .i64 0, .int .i64 0, .int .i64 0, .int .i64 0, .int .i64 0]) ?_ 0 _ rfl; (with_reducible repeat (first | refine blk_drewN ?_ _ | refine blk_drew ?_ | refine blk_alloc ?_ _)); exact BK124.out⟩
     have n1_ : Aside0 (Below w.heap.size w ((((((w36.setCell ⟨gb124, 0, none⟩ (.int .i64 ((rd_T41 l0 x7_1).f0))).setCell ⟨gb124, 1, none⟩ (.int .i64 ((rd_T41 l0 x7_1).f1))).setCell ⟨gb124, 2, none⟩ (.int .i64 ((rd_T41 l0 x7_1).f2))).setCell ⟨gb124, 3, none⟩ (.int .i64 ((rd_T41 l0 x7_1).f3))).setCell ⟨gb124, 4, none⟩ (.int .i64 ((rd_T41 l0 x7_1).f4))).setCell ⟨gb124, 5, none⟩ (.int .i64 ((rd_T41 l0 x7_1).f5)))) := ⟨by repeat (first | (with_reducible first | exact HB.out | apply below_alloc | apply pw_below_drewN | apply below_drew1 | refine below_set ?_ GE124.out) | exact HB.out)⟩
     (try clear BK124)
     (try clear HB)
     generalize ((((((w36.setCell ⟨gb124, 0, none⟩ (.int .i64 ((rd_T41 l0 x7_1).f0))).setCell ⟨gb124, 1, none⟩ (.int .i64 ((rd_T41 l0 x7_1).f1))).setCell ⟨gb124, 2, none⟩ (.int .i64 ((rd_T41 l0 x7_1).f2))).setCell ⟨gb124, 3, none⟩ (.int .i64 ((rd_T41 l0 x7_1).f3))).setCell ⟨gb124, 4, none⟩ (.int .i64 ((rd_T41 l0 x7_1).f4))).setCell ⟨gb124, 5, none⟩ (.int .i64 ((rd_T41 l0 x7_1).f5))) = w38 at n0_ n1_ ⊢
     have BK124 := n0_
     have HB := n1_
     clear n0_ n1_
     have n0_ := Aside0.mk (blk_drew BK124.out)
     have n1_ := Aside0.mk (below_drew1 HB.out)
     clear BK124
     clear HB
     have BK124 := n0_
     have HB := n1_
     clear n0_ n1_
     refine start_ (n := 27) (S := fun w' => w'.cell? ⟨gb124, 0, none⟩ = some (.int .i64 ((rd_T41 l0 x7_1).f0)) ∧ w'.cell? ⟨gb124, 1, none⟩ = some (.int .i64 ((rd_T41 l0 x7_1).f1)) ∧ w'.cell? ⟨gb124, 2, none⟩ = some (.int .i64 ((rd_T41 l0 x7_1).f2)) ∧ w'.cell? ⟨gb124, 3, none⟩ = some (.int .i64 ((rd_T41 l0 x7_1).f3)) ∧ w'.cell? ⟨gb124, 4, none⟩ = some (.int .i64 ((rd_T41 l0 x7_1).f4)) ∧ w'.cell? ⟨gb124, 5, none⟩ = some (.int .i64 ((rd_T41 l0 x7_1).f5))) (ds := []) z0_ (by kernel_rfl) rfl rfl ⟨(blk_cell BK124.out 0).trans rfl, (blk_cell BK124.out 1).trans rfl, (blk_cell BK124.out 2).trans rfl, (blk_cell BK124.out 3).trans rfl, (blk_cell BK124.out 4).trans rfl, (blk_cell BK124.out 5).trans rfl⟩ (fun hHeld => ?_); refine with_tabW region_Check.tab4 region_Check.bits4 (fun HT_ HW_ => ?_)
     generalize w38.drew = w39 at BK124 HB hHeld ⊢
     refine take_ (i := 0) (N := some 12) (v := ?_) (a' := ?_) z1_ rfl rfl (take_ofW HT_.out HW_.out (by kernel_rfl)) (fun _ _ _ h => h) (Or.inl ⟨by rfl, ?_⟩) hHeld ?_ ?_; rotate_left; rintro w' ⟨s0, s1, s2, s3, s4, s5⟩; go_simp; with_reducible rfl; rotate_left; simp only [Act.put, sA_, sB_, sC_, i64_w, i32_w]; rfl
     refine one_ (i := 1) (N := some 13) z2_ rfl rfl (one_of HT_.out (by kernel_rfl)) (by decide) (fun K hK => ?_)
     refine goes_ Try.func77 (by kernel_rfl) rfl #[.agg #[.int .i64 ((rd_T41 l0 x7_1).f0), .int .i64 ((rd_T41 l0 x7_1).f1), .int .i64 ((rd_T41 l0 x7_1).f2), .int .i64 ((rd_T41 l0 x7_1).f3), .int .i64 ((rd_T41 l0 x7_1).f4), .int .i64 ((rd_T41 l0 x7_1).f5)]] (by rfl) rfl rfl (by (try simp only [List.map_toArray, List.map_cons, List.map_nil]); first | done | rfl | (simp only [List.length_drop, List.length_take]; rfl)) ?_
     with_reducible refine (region_may.calls k1 ((rd_T41 l0 x7_1).f0) ((rd_T41 l0 x7_1).f1) ((rd_T41 l0 x7_1).f2) ((rd_T41 l0 x7_1).f3) ((rd_T41 l0 x7_1).f4) ((rd_T41 l0 x7_1).f5) false _ A5.out).mono ?_
     rintro e w40 ⟨rfl, hb⟩
     refine ⟨_, rfl, ?_⟩
     have n0_ := Aside0.mk (blk_below (g := gb124) (o := .cells #[.int .i64 ((rd_T41 l0 x7_1).f0), .int .i64 ((rd_T41 l0 x7_1).f1), .int .i64 ((rd_T41 l0 x7_1).f2), .int .i64 ((rd_T41 l0 x7_1).f3), .int .i64 ((rd_T41 l0 x7_1).f4), .int .i64 ((rd_T41 l0 x7_1).f5)] 41 (0, 0)) (by (with_reducible repeat (first | refine blk_drewN ?_ _ | refine blk_drew ?_ | refine blk_alloc ?_ _)); exact BK124.out) hb)
     have n1_ := Aside0.mk (below_step (by repeat (first | (with_reducible first | exact HB.out | apply below_alloc | apply pw_below_drewN | apply below_drew1 | refine below_set ?_ GE124.out) | exact HB.out)) hb)
     clear BK124
     clear HB
     have BK124 := n0_
     have HB := n1_
     clear n0_ n1_
     (try clear hb)
     (try clear hb2)
     (try clear hk)
     (try clear hi)
     refine hK.out _ _ ⟨(blk_cell BK124.out 0).trans rfl, (blk_cell BK124.out 1).trans rfl, (blk_cell BK124.out 2).trans rfl, (blk_cell BK124.out 3).trans rfl, (blk_cell BK124.out 4).trans rfl, (blk_cell BK124.out 5).trans rfl⟩ (fun hHeld => ?_)
     clear hK K
     refine norm_ (a' := ?_) ?_ ?_
     rotate_left
     · show Act.put _ (some 13) _ = _
       simp only [Act.put, sA_, sB_, sC_, i64_w, i32_w]
       rfl
     refine pure_ (i := 2) (N := some 14) (v := ?_) (a' := ?_) z3_ rfl rfl (any_of HT_.out (by kernel_rfl)) (fun _ _ _ h => h) (Or.inl ⟨by rfl, ?_⟩) ?_ ?_; rotate_left; intro w'; go_simp; with_reducible rfl; rotate_left; simp only [Act.put, sA_, sB_, sC_, i64_w, i32_w]; rfl
     refine pure_ (i := 3) (N := some 15) (v := ?_) (a' := ?_) z4_ rfl rfl (any_of HT_.out (by kernel_rfl)) (fun _ _ _ h => h) (Or.inl ⟨by rfl, ?_⟩) ?_ ?_; rotate_left; intro w'; go_simp; with_reducible rfl; rotate_left; simp only [Act.put, sA_, sB_, sC_, i64_w, i32_w]; rfl
     refine pure_ (i := 4) (N := some 16) (v := undef) (a' := ?_) z5_ rfl rfl (any_of HT_.out (by kernel_rfl)) (fun _ _ _ h => h) (Or.inr ⟨by rfl, rfl⟩) ?_ ?_
     rotate_left
     · simp only [Act.put, sA_, sB_, sC_, i64_w, i32_w]
       rfl
     refine pure_ (i := 5) (N := some 17) (v := undef) (a' := ?_) z6_ rfl rfl (any_of HT_.out (by kernel_rfl)) (fun _ _ _ h => h) (Or.inr ⟨by rfl, rfl⟩) ?_ ?_
     rotate_left
     · simp only [Act.put, sA_, sB_, sC_, i64_w, i32_w]
       rfl
     refine pure_ (i := 6) (N := some 18) (v := undef) (a' := ?_) z7_ rfl rfl (any_of HT_.out (by kernel_rfl)) (fun _ _ _ h => h) (Or.inr ⟨by rfl, rfl⟩) ?_ ?_
     rotate_left
     · simp only [Act.put, sA_, sB_, sC_, i64_w, i32_w]
       rfl
     refine pure_ (i := 7) (N := some 19) (v := undef) (a' := ?_) z8_ rfl rfl (any_of HT_.out (by kernel_rfl)) (fun _ _ _ h => h) (Or.inr ⟨by rfl, rfl⟩) ?_ ?_
     rotate_left
     · simp only [Act.put, sA_, sB_, sC_, i64_w, i32_w]
       rfl
     refine pure_ (i := 8) (N := some 20) (v := undef) (a' := ?_) z9_ rfl rfl (any_of HT_.out (by kernel_rfl)) (fun _ _ _ h => h) (Or.inr ⟨by rfl, rfl⟩) ?_ ?_
     rotate_left
     · simp only [Act.put, sA_, sB_, sC_, i64_w, i32_w]
       rfl
     refine pure_ (i := 9) (N := some 21) (v := undef) (a' := ?_) z10_ rfl rfl (any_of HT_.out (by kernel_rfl)) (fun _ _ _ h => h) (Or.inr ⟨by rfl, rfl⟩) ?_ ?_
     rotate_left
     · simp only [Act.put, sA_, sB_, sC_, i64_w, i32_w]
       rfl
     refine pure_ (i := 10) (N := some 22) (v := undef) (a' := ?_) z11_ rfl rfl (any_of HT_.out (by kernel_rfl)) (fun _ _ _ h => h) (Or.inr ⟨by rfl, rfl⟩) ?_ ?_
     rotate_left
     · simp only [Act.put, sA_, sB_, sC_, i64_w, i32_w]
       rfl
     refine pure_ (i := 11) (N := some 23) (v := undef) (a' := ?_) z12_ rfl rfl (any_of HT_.out (by kernel_rfl)) (fun _ _ _ h => h) (Or.inr ⟨by rfl, rfl⟩) ?_ ?_
     rotate_left
     · simp only [Act.put, sA_, sB_, sC_, i64_w, i32_w]
       rfl
     refine pure_ (i := 12) (N := some 24) (v := undef) (a' := ?_) z13_ rfl rfl (any_of HT_.out (by kernel_rfl)) (fun _ _ _ h => h) (Or.inr ⟨by rfl, rfl⟩) ?_ ?_
     rotate_left
     · simp only [Act.put, sA_, sB_, sC_, i64_w, i32_w]
       rfl
     refine pure_ (i := 13) (N := some 25) (v := undef) (a' := ?_) z14_ rfl rfl (any_of HT_.out (by kernel_rfl)) (fun _ _ _ h => h) (Or.inr ⟨by rfl, rfl⟩) ?_ ?_
     rotate_left
     · simp only [Act.put, sA_, sB_, sC_, i64_w, i32_w]
       rfl
     refine pure_ (i := 14) (N := some 26) (v := undef) (a' := ?_) z15_ rfl rfl (any_of HT_.out (by kernel_rfl)) (fun _ _ _ h => h) (Or.inr ⟨by rfl, rfl⟩) ?_ ?_
     rotate_left
     · simp only [Act.put, sA_, sB_, sC_, i64_w, i32_w]
       rfl
     refine pure_ (i := 15) (N := some 27) (v := undef) (a' := ?_) z16_ rfl rfl (any_of HT_.out (by kernel_rfl)) (fun _ _ _ h => h) (Or.inr ⟨by rfl, rfl⟩) ?_ ?_
     rotate_left
     · simp only [Act.put, sA_, sB_, sC_, i64_w, i32_w]
       rfl
     refine pure_ (i := 16) (N := some 28) (v := undef) (a' := ?_) z17_ rfl rfl (any_of HT_.out (by kernel_rfl)) (fun _ _ _ h => h) (Or.inr ⟨by rfl, rfl⟩) ?_ ?_
     rotate_left
     · simp only [Act.put, sA_, sB_, sC_, i64_w, i32_w]
       rfl
     refine pure_ (i := 17) (N := some 29) (v := undef) (a' := ?_) z18_ rfl rfl (any_of HT_.out (by kernel_rfl)) (fun _ _ _ h => h) (Or.inr ⟨by rfl, rfl⟩) ?_ ?_
     rotate_left
     · simp only [Act.put, sA_, sB_, sC_, i64_w, i32_w]
       rfl
     refine pure_ (i := 18) (N := some 30) (v := undef) (a' := ?_) z19_ rfl rfl (any_of HT_.out (by kernel_rfl)) (fun _ _ _ h => h) (Or.inr ⟨by rfl, rfl⟩) ?_ ?_
     rotate_left
     · simp only [Act.put, sA_, sB_, sC_, i64_w, i32_w]
       rfl
     refine pure_ (i := 19) (N := some 31) (v := undef) (a' := ?_) z20_ rfl rfl (any_of HT_.out (by kernel_rfl)) (fun _ _ _ h => h) (Or.inr ⟨by rfl, rfl⟩) ?_ ?_
     rotate_left
     · simp only [Act.put, sA_, sB_, sC_, i64_w, i32_w]
       rfl
     refine pure_ (i := 20) (N := some 32) (v := undef) (a' := ?_) z21_ rfl rfl (any_of HT_.out (by kernel_rfl)) (fun _ _ _ h => h) (Or.inr ⟨by rfl, rfl⟩) ?_ ?_
     rotate_left
     · simp only [Act.put, sA_, sB_, sC_, i64_w, i32_w]
       rfl
     refine pure_ (i := 21) (N := some 33) (v := undef) (a' := ?_) z22_ rfl rfl (any_of HT_.out (by kernel_rfl)) (fun _ _ _ h => h) (Or.inr ⟨by rfl, rfl⟩) ?_ ?_
     rotate_left
     · simp only [Act.put, sA_, sB_, sC_, i64_w, i32_w]
       rfl
     refine pure_ (i := 22) (N := some 34) (v := undef) (a' := ?_) z23_ rfl rfl (any_of HT_.out (by kernel_rfl)) (fun _ _ _ h => h) (Or.inr ⟨by rfl, rfl⟩) ?_ ?_
     rotate_left
     · simp only [Act.put, sA_, sB_, sC_, i64_w, i32_w]
       rfl
     refine pure_ (i := 23) (N := some 35) (v := undef) (a' := ?_) z24_ rfl rfl (any_of HT_.out (by kernel_rfl)) (fun _ _ _ h => h) (Or.inr ⟨by rfl, rfl⟩) ?_ ?_
     rotate_left
     · simp only [Act.put, sA_, sB_, sC_, i64_w, i32_w]
       rfl
     refine pure_ (i := 24) (N := some 36) (v := undef) (a' := ?_) z25_ rfl rfl (any_of HT_.out (by kernel_rfl)) (fun _ _ _ h => h) (Or.inr ⟨by rfl, rfl⟩) ?_ ?_
     rotate_left
     · simp only [Act.put, sA_, sB_, sC_, i64_w, i32_w]
       rfl
     refine pure_ (i := 25) (N := some 37) (v := undef) (a' := ?_) z26_ rfl rfl (any_of HT_.out (by kernel_rfl)) (fun _ _ _ h => h) (Or.inr ⟨by rfl, rfl⟩) ?_ ?_
     rotate_left
     · simp only [Act.put, sA_, sB_, sC_, i64_w, i32_w]
       rfl
     refine pure_ (i := 26) (N := some 38) (v := ?_) (a' := ?_) z27_ rfl rfl (any_of HT_.out (by kernel_rfl)) (fun _ _ _ h => h) (Or.inl ⟨by rfl, ?_⟩) ?_ ?_; rotate_left; intro w'; go_simp; with_reducible rfl; rotate_left; simp only [Act.put, sA_, sB_, sC_, i64_w, i32_w]; rfl
     refine done_ (done_of HT_.out (by kernel_rfl)) ?_
     try go_wp2
     go_ret
     exact ⟨by first | rfl | (simp [errW_none, errW_some] <;> rfl) | (simp [*, errW_none, errW_some] <;> rfl), by repeat (first | (with_reducible first | exact HB.out | apply below_alloc | apply pw_below_drewN | apply below_drew1 | refine below_set ?_ GE124.out) | exact HB.out)⟩
   subst c6
   have H1 : (if x7_1 > 0 then (if 0 ≤ (wrap64 (x7_1 - 1)) then (if (wrap64 (x7_1 - 1)) < (l0.length : Int) then (if ((rd_T41 l0 x7_1).f0) < ((rd_T41 l0 (wrap64 (x7_1 - 1))).f1) then (some 1) else ((region_one.f ((rd_T41 l0 (wrap64 (x7_1 - 1))).f0) ((rd_T41 l0 (wrap64 (x7_1 - 1))).f1) ((rd_T41 l0 (wrap64 (x7_1 - 1))).f2) ((rd_T41 l0 (wrap64 (x7_1 - 1))).f3) ((rd_T41 l0 (wrap64 (x7_1 - 1))).f4) ((rd_T41 l0 (wrap64 (x7_1 - 1))).f5) ((rd_T41 l0 x7_1).f0) ((rd_T41 l0 x7_1).f1) ((rd_T41 l0 x7_1).f2) ((rd_T41 l0 x7_1).f3) ((rd_T41 l0 x7_1).f4) ((rd_T41 l0 x7_1).f5)).bind fun t128 => (if t128 = true then (some 1) else (region_Check.l0 k1 l0 l0 (l0.length : Int) (wrap64 (x7_1 + 1)))))) else (none)) else (none)) else (region_Check.l0 k1 l0 l0 (l0.length : Int) (wrap64 (x7_1 + 1)))) = some r := by rw [if_pos rfl] at H; exact H
   clear H
   have H := H1
   clear H1
   by_cases c7 : x7_1 > 0
   rotate_left
   · rw [if_neg c7] at H
     have c7b0 : decide (0 < x7_1) = false := decide_eq_false c7
     clear c7
     have H' := Aside0.mk H
     clear H
     have p123 : 0 ≤ (x7_1 : Int) := of_decide_eq_true (by first | (with_reducible assumption) | assumption)
     have q123 : x7_1 < (l0.length : Int) := of_decide_eq_true (by first | (with_reducible assumption) | assumption)
     obtain ⟨ad123, e123, hx123_0, hx123_1, hx123_2, hx123_3, hx123_4, hx123_5⟩ := at_T41 HR0.out x7_1 p123 q123
     cases e123
     replace hx123_0 := up_ hx123_0 HB.out
     replace hx123_1 := up_ hx123_1 HB.out
     replace hx123_2 := up_ hx123_2 HB.out
     replace hx123_3 := up_ hx123_3 HB.out
     replace hx123_4 := up_ hx123_4 HB.out
     replace hx123_5 := up_ hx123_5 HB.out
     replace p123 := eq_true p123
     replace q123 := eq_true q123
     try go_wp2_with (first | ((with_reducible refine gate_dst (N := 4) rfl ?_); refine box_event ?hg (N := 4) ?hd (cs := #[.int .i64 0, .int .i64 0, .int .i64 0, .int .i64 0, .int .i64 0, .int .i64 0]) (t := 41) ?hr ?_; (case hd => rfl); (case hg => rfl); (case hr => first | (go_simp; done) | (go_simp; rfl)); intro gb124 hg w31 hbox hb; have n0_ := Aside0.mk (below_step (by repeat (first | (with_reducible first | exact HB.out | apply below_alloc | apply pw_below_drewN | apply below_drew1) | exact HB.out)) hb); have n1_ := Aside0.mk (hbox); have n2_ := Aside0.mk ((by rw [hg]; exact (below_size (by repeat (first | (with_reducible first | exact HB.out | apply below_alloc | apply pw_below_drewN | apply below_drew1) | exact HB.out))) : w.heap.size ≤ gb124)); have n3_ := Aside0.mk ((by rw [hg]; exact (below_size (by repeat (first | (with_reducible first | exact HB.out | apply below_alloc | apply pw_below_drewN | apply below_drew1) | exact HB.out))) : w.heap.size ≤ gb124)); clear HB; have HB := n0_; have BK124 := n1_; have GW124 := n2_; have GE124 := n3_; clear n0_ n1_ n2_ n3_; clear hb hbox hg; have hcz32_0 : w31.cell? ⟨gb124, 0, none⟩ = some (.int .i64 0) := (blk_cell BK124.out 0).trans rfl; have hcz32_1 : w31.cell? ⟨gb124, 1, none⟩ = some (.int .i64 0) := (blk_cell BK124.out 1).trans rfl; have hcz32_2 : w31.cell? ⟨gb124, 2, none⟩ = some (.int .i64 0) := (blk_cell BK124.out 2).trans rfl; have hcz32_3 : w31.cell? ⟨gb124, 3, none⟩ = some (.int .i64 0) := (blk_cell BK124.out 3).trans rfl; have hcz32_4 : w31.cell? ⟨gb124, 4, none⟩ = some (.int .i64 0) := (blk_cell BK124.out 4).trans rfl; have hcz32_5 : w31.cell? ⟨gb124, 5, none⟩ = some (.int .i64 0) := (blk_cell BK124.out 5).trans rfl; have hfz32_0 := blk_frozen BK124.out 0; have hfz32_1 := blk_frozen BK124.out 1; have hfz32_2 := blk_frozen BK124.out 2; have hfz32_3 := blk_frozen BK124.out 3; have hfz32_4 := blk_frozen BK124.out 4; have hfz32_5 := blk_frozen BK124.out 5))
     have n0_ : Aside0 (((((((w31.setCell ⟨gb124, 0, none⟩ (.int .i64 ((rd_T41 l0 x7_1).f0))).setCell ⟨gb124, 1, none⟩ (.int .i64 ((rd_T41 l0 x7_1).f1))).setCell ⟨gb124, 2, none⟩ (.int .i64 ((rd_T41 l0 x7_1).f2))).setCell ⟨gb124, 3, none⟩ (.int .i64 ((rd_T41 l0 x7_1).f3))).setCell ⟨gb124, 4, none⟩ (.int .i64 ((rd_T41 l0 x7_1).f4))).setCell ⟨gb124, 5, none⟩ (.int .i64 ((rd_T41 l0 x7_1).f5))).heap[gb124]? = some (.cells #[.int .i64 ((rd_T41 l0 x7_1).f0), .int .i64 ((rd_T41 l0 x7_1).f1), .int .i64 ((rd_T41 l0 x7_1).f2), .int .i64 ((rd_T41 l0 x7_1).f3), .int .i64 ((rd_T41 l0 x7_1).f4), .int .i64 ((rd_T41 l0 x7_1).f5)] 41 (0, 0))) := ⟨by (with_reducible repeat (first | refine blk_drewN ?_ _ | refine blk_drew ?_ | refine blk_alloc ?_ _)); refine blk_put (cs := #[.int .i64 ((rd_T41 l0 x7_1).f0), .int .i64 ((rd_T41 l0 x7_1).f1), .int .i64 ((rd_T41 l0 x7_1).f2), .int .i64 ((rd_T41 l0 x7_1).f3), .int .i64 ((rd_T41 l0 x7_1).f4), .int .i64 0]) ?_ 5 _ rfl; (with_reducible repeat (first | refine blk_drewN ?_ _ | refine blk_drew ?_ | refine blk_alloc ?_ _)); refine blk_put (cs := #[.int .i64 ((rd_T41 l0 x7_1).f0), .int .i64 ((rd_T41 l0 x7_1).f1), .int .i64 ((rd_T41 l0 x7_1).f2), .int .i64 ((rd_T41 l0 x7_1).f3), .int .i64 0, .int .i64 0]) ?_ 4 _ rfl; (with_reducible repeat (first | refine blk_drewN ?_ _ | refine blk_drew ?_ | refine blk_alloc ?_ _)); refine blk_put (cs := #[.int .i64 ((rd_T41 l0 x7_1).f0), .int .i64 ((rd_T41 l0 x7_1).f1), .int .i64 ((rd_T41 l0 x7_1).f2), .int .i64 0, .int .i64 0, .int .i64 0]) ?_ 3 _ rfl; (with_reducible repeat (first | refine blk_drewN ?_ _ | refine blk_drew ?_ | refine blk_alloc ?_ _)); refine blk_put (cs := #[.int .i64 ((rd_T41 l0 x7_1).f0), .int .i64 ((rd_T41 l0 x7_1).f1), .int .i64 0, .int .i64 0, .int .i64 0, .int .i64 0]) ?_ 2 _ rfl; (with_reducible repeat (first | refine blk_drewN ?_ _ | refine blk_drew ?_ | refine blk_alloc ?_ _)); refine blk_put (cs := #[.int .i64 ((rd_T41 l0 x7_1).f0), .int .i64 0, .int .i64 0, .int .i64 0, .int .i64 0, .int .i64 0]) ?_ 1 _ rfl; (with_reducible repeat (first | refine blk_drewN ?_ _ | refine blk_drew ?_ | refine blk_alloc ?_ _)); refine blk_put (cs := #[.int .i64 0, .int .i64 0, .int .i64 0, .int .i64 0, .int .i64 0, .int .i64 0]) ?_ 0 _ rfl; (with_reducible repeat (first | refine blk_drewN ?_ _ | refine blk_drew ?_ | refine blk_alloc ?_ _)); exact BK124.out⟩
     have n1_ : Aside0 (Below w.heap.size w ((((((w31.setCell ⟨gb124, 0, none⟩ (.int .i64 ((rd_T41 l0 x7_1).f0))).setCell ⟨gb124, 1, none⟩ (.int .i64 ((rd_T41 l0 x7_1).f1))).setCell ⟨gb124, 2, none⟩ (.int .i64 ((rd_T41 l0 x7_1).f2))).setCell ⟨gb124, 3, none⟩ (.int .i64 ((rd_T41 l0 x7_1).f3))).setCell ⟨gb124, 4, none⟩ (.int .i64 ((rd_T41 l0 x7_1).f4))).setCell ⟨gb124, 5, none⟩ (.int .i64 ((rd_T41 l0 x7_1).f5)))) := ⟨by repeat (first | (with_reducible first | exact HB.out | apply below_alloc | apply pw_below_drewN | apply below_drew1 | refine below_set ?_ GE124.out) | exact HB.out)⟩
     (try clear BK124)
     (try clear HB)
     generalize ((((((w31.setCell ⟨gb124, 0, none⟩ (.int .i64 ((rd_T41 l0 x7_1).f0))).setCell ⟨gb124, 1, none⟩ (.int .i64 ((rd_T41 l0 x7_1).f1))).setCell ⟨gb124, 2, none⟩ (.int .i64 ((rd_T41 l0 x7_1).f2))).setCell ⟨gb124, 3, none⟩ (.int .i64 ((rd_T41 l0 x7_1).f3))).setCell ⟨gb124, 4, none⟩ (.int .i64 ((rd_T41 l0 x7_1).f4))).setCell ⟨gb124, 5, none⟩ (.int .i64 ((rd_T41 l0 x7_1).f5))) = w33 at n0_ n1_ ⊢
     have BK124 := n0_
     have HB := n1_
     clear n0_ n1_
     have n0_ := Aside0.mk (blk_drew BK124.out)
     have n1_ := Aside0.mk (below_drew1 HB.out)
     clear BK124
     clear HB
     have BK124 := n0_
     have HB := n1_
     clear n0_ n1_
     refine start_ (n := 27) (S := fun w' => w'.cell? ⟨gb124, 0, none⟩ = some (.int .i64 ((rd_T41 l0 x7_1).f0)) ∧ w'.cell? ⟨gb124, 1, none⟩ = some (.int .i64 ((rd_T41 l0 x7_1).f1)) ∧ w'.cell? ⟨gb124, 2, none⟩ = some (.int .i64 ((rd_T41 l0 x7_1).f2)) ∧ w'.cell? ⟨gb124, 3, none⟩ = some (.int .i64 ((rd_T41 l0 x7_1).f3)) ∧ w'.cell? ⟨gb124, 4, none⟩ = some (.int .i64 ((rd_T41 l0 x7_1).f4)) ∧ w'.cell? ⟨gb124, 5, none⟩ = some (.int .i64 ((rd_T41 l0 x7_1).f5))) (ds := []) z0_ (by kernel_rfl) rfl rfl ⟨(blk_cell BK124.out 0).trans rfl, (blk_cell BK124.out 1).trans rfl, (blk_cell BK124.out 2).trans rfl, (blk_cell BK124.out 3).trans rfl, (blk_cell BK124.out 4).trans rfl, (blk_cell BK124.out 5).trans rfl⟩ (fun hHeld => ?_); refine with_tabW region_Check.tab4 region_Check.bits4 (fun HT_ HW_ => ?_)
     generalize w33.drew = w34 at BK124 HB hHeld ⊢
     refine take_ (i := 0) (N := some 12) (v := ?_) (a' := ?_) z1_ rfl rfl (take_ofW HT_.out HW_.out (by kernel_rfl)) (fun _ _ _ h => h) (Or.inl ⟨by rfl, ?_⟩) hHeld ?_ ?_; rotate_left; rintro w' ⟨s0, s1, s2, s3, s4, s5⟩; go_simp; with_reducible rfl; rotate_left; simp only [Act.put, sA_, sB_, sC_, i64_w, i32_w]; rfl
     refine one_ (i := 1) (N := some 13) z2_ rfl rfl (one_of HT_.out (by kernel_rfl)) (by decide) (fun K hK => ?_)
     refine goes_ Try.func77 (by kernel_rfl) rfl #[.agg #[.int .i64 ((rd_T41 l0 x7_1).f0), .int .i64 ((rd_T41 l0 x7_1).f1), .int .i64 ((rd_T41 l0 x7_1).f2), .int .i64 ((rd_T41 l0 x7_1).f3), .int .i64 ((rd_T41 l0 x7_1).f4), .int .i64 ((rd_T41 l0 x7_1).f5)]] (by rfl) rfl rfl (by (try simp only [List.map_toArray, List.map_cons, List.map_nil]); first | done | rfl | (simp only [List.length_drop, List.length_take]; rfl)) ?_
     with_reducible refine (region_may.calls k1 ((rd_T41 l0 x7_1).f0) ((rd_T41 l0 x7_1).f1) ((rd_T41 l0 x7_1).f2) ((rd_T41 l0 x7_1).f3) ((rd_T41 l0 x7_1).f4) ((rd_T41 l0 x7_1).f5) true _ A5.out).mono ?_
     rintro e w35 ⟨rfl, hb⟩
     refine ⟨_, rfl, ?_⟩
     have n0_ := Aside0.mk (blk_below (g := gb124) (o := .cells #[.int .i64 ((rd_T41 l0 x7_1).f0), .int .i64 ((rd_T41 l0 x7_1).f1), .int .i64 ((rd_T41 l0 x7_1).f2), .int .i64 ((rd_T41 l0 x7_1).f3), .int .i64 ((rd_T41 l0 x7_1).f4), .int .i64 ((rd_T41 l0 x7_1).f5)] 41 (0, 0)) (by (with_reducible repeat (first | refine blk_drewN ?_ _ | refine blk_drew ?_ | refine blk_alloc ?_ _)); exact BK124.out) hb)
     have n1_ := Aside0.mk (below_step (by repeat (first | (with_reducible first | exact HB.out | apply below_alloc | apply pw_below_drewN | apply below_drew1 | refine below_set ?_ GE124.out) | exact HB.out)) hb)
     clear BK124
     clear HB
     have BK124 := n0_
     have HB := n1_
     clear n0_ n1_
     (try clear hb)
     (try clear hb2)
     (try clear hk)
     (try clear hi)
     refine hK.out _ _ ⟨(blk_cell BK124.out 0).trans rfl, (blk_cell BK124.out 1).trans rfl, (blk_cell BK124.out 2).trans rfl, (blk_cell BK124.out 3).trans rfl, (blk_cell BK124.out 4).trans rfl, (blk_cell BK124.out 5).trans rfl⟩ (fun hHeld => ?_)
     clear hK K
     refine norm_ (a' := ?_) ?_ ?_
     rotate_left
     · show Act.put _ (some 13) _ = _
       simp only [Act.put, sA_, sB_, sC_, i64_w, i32_w]
       rfl
     refine pure_ (i := 2) (N := some 14) (v := ?_) (a' := ?_) z3_ rfl rfl (any_of HT_.out (by kernel_rfl)) (fun _ _ _ h => h) (Or.inl ⟨by rfl, ?_⟩) ?_ ?_; rotate_left; intro w'; go_simp; with_reducible rfl; rotate_left; simp only [Act.put, sA_, sB_, sC_, i64_w, i32_w]; rfl
     refine pure_ (i := 3) (N := some 15) (v := ?_) (a' := ?_) z4_ rfl rfl (any_of HT_.out (by kernel_rfl)) (fun _ _ _ h => h) (Or.inl ⟨by rfl, ?_⟩) ?_ ?_; rotate_left; intro w'; go_simp; with_reducible rfl; rotate_left; simp only [Act.put, sA_, sB_, sC_, i64_w, i32_w]; rfl
     refine pure_ (i := 4) (N := some 16) (v := ?_) (a' := ?_) z5_ rfl rfl (any_of HT_.out (by kernel_rfl)) (fun _ _ _ h => h) (Or.inl ⟨by rfl, ?_⟩) ?_ ?_; rotate_left; intro w'; go_simp; with_reducible rfl; rotate_left; simp only [Act.put, sA_, sB_, sC_, i64_w, i32_w]; rfl
     refine pure_ (i := 5) (N := some 17) (v := ?_) (a' := ?_) z6_ rfl rfl (any_of HT_.out (by kernel_rfl)) (fun _ _ _ h => h) (Or.inl ⟨by rfl, ?_⟩) ?_ ?_; rotate_left; intro w'; go_simp; with_reducible rfl; rotate_left; simp only [Act.put, sA_, sB_, sC_, i64_w, i32_w]; rfl
     refine pure_ (i := 6) (N := some 18) (v := ?_) (a' := ?_) z7_ rfl rfl (any_of HT_.out (by kernel_rfl)) (fun _ _ _ h => h) (Or.inl ⟨by rfl, ?_⟩) ?_ ?_; rotate_left; intro w'; go_simp; with_reducible rfl; rotate_left; simp only [Act.put, sA_, sB_, sC_, i64_w, i32_w]; rfl
     refine pure_ (i := 7) (N := some 19) (v := undef) (a' := ?_) z8_ rfl rfl (any_of HT_.out (by kernel_rfl)) (fun _ _ _ h => h) (Or.inr ⟨by rfl, rfl⟩) ?_ ?_
     rotate_left
     · simp only [Act.put, sA_, sB_, sC_, i64_w, i32_w]
       rfl
     refine pure_ (i := 8) (N := some 20) (v := undef) (a' := ?_) z9_ rfl rfl (any_of HT_.out (by kernel_rfl)) (fun _ _ _ h => h) (Or.inr ⟨by rfl, rfl⟩) ?_ ?_
     rotate_left
     · simp only [Act.put, sA_, sB_, sC_, i64_w, i32_w]
       rfl
     refine pure_ (i := 9) (N := some 21) (v := undef) (a' := ?_) z10_ rfl rfl (any_of HT_.out (by kernel_rfl)) (fun _ _ _ h => h) (Or.inr ⟨by rfl, rfl⟩) ?_ ?_
     rotate_left
     · simp only [Act.put, sA_, sB_, sC_, i64_w, i32_w]
       rfl
     refine pure_ (i := 10) (N := some 22) (v := undef) (a' := ?_) z11_ rfl rfl (any_of HT_.out (by kernel_rfl)) (fun _ _ _ h => h) (Or.inr ⟨by rfl, rfl⟩) ?_ ?_
     rotate_left
     · simp only [Act.put, sA_, sB_, sC_, i64_w, i32_w]
       rfl
     refine pure_ (i := 11) (N := some 23) (v := undef) (a' := ?_) z12_ rfl rfl (any_of HT_.out (by kernel_rfl)) (fun _ _ _ h => h) (Or.inr ⟨by rfl, rfl⟩) ?_ ?_
     rotate_left
     · simp only [Act.put, sA_, sB_, sC_, i64_w, i32_w]
       rfl
     refine pure_ (i := 12) (N := some 24) (v := undef) (a' := ?_) z13_ rfl rfl (any_of HT_.out (by kernel_rfl)) (fun _ _ _ h => h) (Or.inr ⟨by rfl, rfl⟩) ?_ ?_
     rotate_left
     · simp only [Act.put, sA_, sB_, sC_, i64_w, i32_w]
       rfl
     refine pure_ (i := 13) (N := some 25) (v := undef) (a' := ?_) z14_ rfl rfl (any_of HT_.out (by kernel_rfl)) (fun _ _ _ h => h) (Or.inr ⟨by rfl, rfl⟩) ?_ ?_
     rotate_left
     · simp only [Act.put, sA_, sB_, sC_, i64_w, i32_w]
       rfl
     refine pure_ (i := 14) (N := some 26) (v := undef) (a' := ?_) z15_ rfl rfl (any_of HT_.out (by kernel_rfl)) (fun _ _ _ h => h) (Or.inr ⟨by rfl, rfl⟩) ?_ ?_
     rotate_left
     · simp only [Act.put, sA_, sB_, sC_, i64_w, i32_w]
       rfl
     refine pure_ (i := 15) (N := some 27) (v := undef) (a' := ?_) z16_ rfl rfl (any_of HT_.out (by kernel_rfl)) (fun _ _ _ h => h) (Or.inr ⟨by rfl, rfl⟩) ?_ ?_
     rotate_left
     · simp only [Act.put, sA_, sB_, sC_, i64_w, i32_w]
       rfl
     refine pure_ (i := 16) (N := some 28) (v := undef) (a' := ?_) z17_ rfl rfl (any_of HT_.out (by kernel_rfl)) (fun _ _ _ h => h) (Or.inr ⟨by rfl, rfl⟩) ?_ ?_
     rotate_left
     · simp only [Act.put, sA_, sB_, sC_, i64_w, i32_w]
       rfl
     refine pure_ (i := 17) (N := some 29) (v := undef) (a' := ?_) z18_ rfl rfl (any_of HT_.out (by kernel_rfl)) (fun _ _ _ h => h) (Or.inr ⟨by rfl, rfl⟩) ?_ ?_
     rotate_left
     · simp only [Act.put, sA_, sB_, sC_, i64_w, i32_w]
       rfl
     refine pure_ (i := 18) (N := some 30) (v := undef) (a' := ?_) z19_ rfl rfl (any_of HT_.out (by kernel_rfl)) (fun _ _ _ h => h) (Or.inr ⟨by rfl, rfl⟩) ?_ ?_
     rotate_left
     · simp only [Act.put, sA_, sB_, sC_, i64_w, i32_w]
       rfl
     refine pure_ (i := 19) (N := some 31) (v := undef) (a' := ?_) z20_ rfl rfl (any_of HT_.out (by kernel_rfl)) (fun _ _ _ h => h) (Or.inr ⟨by rfl, rfl⟩) ?_ ?_
     rotate_left
     · simp only [Act.put, sA_, sB_, sC_, i64_w, i32_w]
       rfl
     refine pure_ (i := 20) (N := some 32) (v := undef) (a' := ?_) z21_ rfl rfl (any_of HT_.out (by kernel_rfl)) (fun _ _ _ h => h) (Or.inr ⟨by rfl, rfl⟩) ?_ ?_
     rotate_left
     · simp only [Act.put, sA_, sB_, sC_, i64_w, i32_w]
       rfl
     refine pure_ (i := 21) (N := some 33) (v := undef) (a' := ?_) z22_ rfl rfl (any_of HT_.out (by kernel_rfl)) (fun _ _ _ h => h) (Or.inr ⟨by rfl, rfl⟩) ?_ ?_
     rotate_left
     · simp only [Act.put, sA_, sB_, sC_, i64_w, i32_w]
       rfl
     refine pure_ (i := 22) (N := some 34) (v := undef) (a' := ?_) z23_ rfl rfl (any_of HT_.out (by kernel_rfl)) (fun _ _ _ h => h) (Or.inr ⟨by rfl, rfl⟩) ?_ ?_
     rotate_left
     · simp only [Act.put, sA_, sB_, sC_, i64_w, i32_w]
       rfl
     refine pure_ (i := 23) (N := some 35) (v := undef) (a' := ?_) z24_ rfl rfl (any_of HT_.out (by kernel_rfl)) (fun _ _ _ h => h) (Or.inr ⟨by rfl, rfl⟩) ?_ ?_
     rotate_left
     · simp only [Act.put, sA_, sB_, sC_, i64_w, i32_w]
       rfl
     refine pure_ (i := 24) (N := some 36) (v := undef) (a' := ?_) z25_ rfl rfl (any_of HT_.out (by kernel_rfl)) (fun _ _ _ h => h) (Or.inr ⟨by rfl, rfl⟩) ?_ ?_
     rotate_left
     · simp only [Act.put, sA_, sB_, sC_, i64_w, i32_w]
       rfl
     refine pure_ (i := 25) (N := some 37) (v := ?_) (a' := ?_) z26_ rfl rfl (any_of HT_.out (by kernel_rfl)) (fun _ _ _ h => h) (Or.inl ⟨by rfl, ?_⟩) ?_ ?_; rotate_left; intro w'; go_simp; with_reducible rfl; rotate_left; simp only [Act.put, sA_, sB_, sC_, i64_w, i32_w]; rfl
     refine pure_ (i := 26) (N := some 38) (v := ?_) (a' := ?_) z27_ rfl rfl (any_of HT_.out (by kernel_rfl)) (fun _ _ _ h => h) (Or.inl ⟨by rfl, ?_⟩) ?_ ?_; rotate_left; intro w'; go_simp; with_reducible rfl; rotate_left; simp only [Act.put, sA_, sB_, sC_, i64_w, i32_w]; rfl
     refine done_ (done_of HT_.out (by kernel_rfl)) ?_
     try go_wp2
     go_roundg k1
     case measure => have := HK1.out; omega
     case rel => exact ⟨(wrap64 (x7_1 + 1)), (by first | rfl | (simp; done) | (simp [*]; done)), H', ⟨by have := HK1.out; omega⟩, ⟨by repeat (first | (with_reducible first | exact HB.out | apply below_alloc | apply pw_below_drewN | apply below_drew1 | refine below_set ?_ GE124.out) | exact HB.out)⟩⟩
   rw [if_pos c7] at H
   have c7b0 : decide (0 < x7_1) = true := decide_eq_true c7
   clear c7
   obtain ⟨ji8, hji8⟩ : ∃ j_ : Int, (wrap64 (x7_1 - 1)) = j_ := ⟨_, rfl⟩
   replace H : (if 0 ≤ (ji8) then (if (ji8) < (l0.length : Int) then (if ((rd_T41 l0 x7_1).f0) < ((rd_T41 l0 (ji8)).f1) then (some 1) else ((region_one.f ((rd_T41 l0 (ji8)).f0) ((rd_T41 l0 (ji8)).f1) ((rd_T41 l0 (ji8)).f2) ((rd_T41 l0 (ji8)).f3) ((rd_T41 l0 (ji8)).f4) ((rd_T41 l0 (ji8)).f5) ((rd_T41 l0 x7_1).f0) ((rd_T41 l0 x7_1).f1) ((rd_T41 l0 x7_1).f2) ((rd_T41 l0 x7_1).f3) ((rd_T41 l0 x7_1).f4) ((rd_T41 l0 x7_1).f5)).bind fun t128 => (if t128 = true then (some 1) else (region_Check.l0 k1 l0 l0 (l0.length : Int) (wrap64 (x7_1 + 1)))))) else (none)) else (none)) = some r := by first | (rw [hji8] at H; exact H) | (simp only [hji8] at H ⊢; exact H)
   (try rw [hji8] at A5)
   have hji8w : (IntKind.i64.wrap (x7_1 - 1)) = ji8 := (i64_w _).trans hji8
   by_cases c9 : 0 ≤ (ji8)
   rotate_left
   · rw [if_neg c9] at H
     exact absurd H (by simp)
   rw [if_pos c9] at H
   have c9b0 : decide (0 ≤ (ji8)) = true := decide_eq_true c9
   clear c9
   by_cases c10 : (ji8) < (l0.length : Int)
   rotate_left
   · rw [if_neg c10] at H
     exact absurd H (by simp)
   rw [if_pos c10] at H
   have c10b0 : decide ((ji8) < (l0.length : Int)) = true := decide_eq_true c10
   clear c10
   by_cases c11 : ((rd_T41 l0 x7_1).f0) < ((rd_T41 l0 (ji8)).f1)
   · rw [if_pos c11] at H
     have c11b0 : decide (((rd_T41 l0 x7_1).f0) < ((rd_T41 l0 (ji8)).f1)) = true := decide_eq_true c11
     clear c11
     obtain rfl := Option.some.inj H
     have p123 : 0 ≤ (x7_1 : Int) := of_decide_eq_true (by first | (with_reducible assumption) | assumption)
     have q123 : x7_1 < (l0.length : Int) := of_decide_eq_true (by first | (with_reducible assumption) | assumption)
     obtain ⟨ad123, e123, hx123_0, hx123_1, hx123_2, hx123_3, hx123_4, hx123_5⟩ := at_T41 HR0.out x7_1 p123 q123
     cases e123
     replace hx123_0 := up_ hx123_0 HB.out
     replace hx123_1 := up_ hx123_1 HB.out
     replace hx123_2 := up_ hx123_2 HB.out
     replace hx123_3 := up_ hx123_3 HB.out
     replace hx123_4 := up_ hx123_4 HB.out
     replace hx123_5 := up_ hx123_5 HB.out
     replace p123 := eq_true p123
     replace q123 := eq_true q123
     try go_wp2_with (first | ((with_reducible refine gate_dst (N := 4) rfl ?_); refine box_event ?hg (N := 4) ?hd (cs := #[.int .i64 0, .int .i64 0, .int .i64 0, .int .i64 0, .int .i64 0, .int .i64 0]) (t := 41) ?hr ?_; (case hd => rfl); (case hg => rfl); (case hr => first | (go_simp; done) | (go_simp; rfl)); intro gb124 hg w12 hbox hb; have n0_ := Aside0.mk (below_step (by repeat (first | (with_reducible first | exact HB.out | apply below_alloc | apply pw_below_drewN | apply below_drew1) | exact HB.out)) hb); have n1_ := Aside0.mk (hbox); have n2_ := Aside0.mk ((by rw [hg]; exact (below_size (by repeat (first | (with_reducible first | exact HB.out | apply below_alloc | apply pw_below_drewN | apply below_drew1) | exact HB.out))) : w.heap.size ≤ gb124)); have n3_ := Aside0.mk ((by rw [hg]; exact (below_size (by repeat (first | (with_reducible first | exact HB.out | apply below_alloc | apply pw_below_drewN | apply below_drew1) | exact HB.out))) : w.heap.size ≤ gb124)); clear HB; have HB := n0_; have BK124 := n1_; have GW124 := n2_; have GE124 := n3_; clear n0_ n1_ n2_ n3_; clear hb hbox hg; have hcz13_0 : w12.cell? ⟨gb124, 0, none⟩ = some (.int .i64 0) := (blk_cell BK124.out 0).trans rfl; have hcz13_1 : w12.cell? ⟨gb124, 1, none⟩ = some (.int .i64 0) := (blk_cell BK124.out 1).trans rfl; have hcz13_2 : w12.cell? ⟨gb124, 2, none⟩ = some (.int .i64 0) := (blk_cell BK124.out 2).trans rfl; have hcz13_3 : w12.cell? ⟨gb124, 3, none⟩ = some (.int .i64 0) := (blk_cell BK124.out 3).trans rfl; have hcz13_4 : w12.cell? ⟨gb124, 4, none⟩ = some (.int .i64 0) := (blk_cell BK124.out 4).trans rfl; have hcz13_5 : w12.cell? ⟨gb124, 5, none⟩ = some (.int .i64 0) := (blk_cell BK124.out 5).trans rfl; have hfz13_0 := blk_frozen BK124.out 0; have hfz13_1 := blk_frozen BK124.out 1; have hfz13_2 := blk_frozen BK124.out 2; have hfz13_3 := blk_frozen BK124.out 3; have hfz13_4 := blk_frozen BK124.out 4; have hfz13_5 := blk_frozen BK124.out 5))
     have n0_ : Aside0 (((((((w12.setCell ⟨gb124, 0, none⟩ (.int .i64 ((rd_T41 l0 x7_1).f0))).setCell ⟨gb124, 1, none⟩ (.int .i64 ((rd_T41 l0 x7_1).f1))).setCell ⟨gb124, 2, none⟩ (.int .i64 ((rd_T41 l0 x7_1).f2))).setCell ⟨gb124, 3, none⟩ (.int .i64 ((rd_T41 l0 x7_1).f3))).setCell ⟨gb124, 4, none⟩ (.int .i64 ((rd_T41 l0 x7_1).f4))).setCell ⟨gb124, 5, none⟩ (.int .i64 ((rd_T41 l0 x7_1).f5))).heap[gb124]? = some (.cells #[.int .i64 ((rd_T41 l0 x7_1).f0), .int .i64 ((rd_T41 l0 x7_1).f1), .int .i64 ((rd_T41 l0 x7_1).f2), .int .i64 ((rd_T41 l0 x7_1).f3), .int .i64 ((rd_T41 l0 x7_1).f4), .int .i64 ((rd_T41 l0 x7_1).f5)] 41 (0, 0))) := ⟨by (with_reducible repeat (first | refine blk_drewN ?_ _ | refine blk_drew ?_ | refine blk_alloc ?_ _)); refine blk_put (cs := #[.int .i64 ((rd_T41 l0 x7_1).f0), .int .i64 ((rd_T41 l0 x7_1).f1), .int .i64 ((rd_T41 l0 x7_1).f2), .int .i64 ((rd_T41 l0 x7_1).f3), .int .i64 ((rd_T41 l0 x7_1).f4), .int .i64 0]) ?_ 5 _ rfl; (with_reducible repeat (first | refine blk_drewN ?_ _ | refine blk_drew ?_ | refine blk_alloc ?_ _)); refine blk_put (cs := #[.int .i64 ((rd_T41 l0 x7_1).f0), .int .i64 ((rd_T41 l0 x7_1).f1), .int .i64 ((rd_T41 l0 x7_1).f2), .int .i64 ((rd_T41 l0 x7_1).f3), .int .i64 0, .int .i64 0]) ?_ 4 _ rfl; (with_reducible repeat (first | refine blk_drewN ?_ _ | refine blk_drew ?_ | refine blk_alloc ?_ _)); refine blk_put (cs := #[.int .i64 ((rd_T41 l0 x7_1).f0), .int .i64 ((rd_T41 l0 x7_1).f1), .int .i64 ((rd_T41 l0 x7_1).f2), .int .i64 0, .int .i64 0, .int .i64 0]) ?_ 3 _ rfl; (with_reducible repeat (first | refine blk_drewN ?_ _ | refine blk_drew ?_ | refine blk_alloc ?_ _)); refine blk_put (cs := #[.int .i64 ((rd_T41 l0 x7_1).f0), .int .i64 ((rd_T41 l0 x7_1).f1), .int .i64 0, .int .i64 0, .int .i64 0, .int .i64 0]) ?_ 2 _ rfl; (with_reducible repeat (first | refine blk_drewN ?_ _ | refine blk_drew ?_ | refine blk_alloc ?_ _)); refine blk_put (cs := #[.int .i64 ((rd_T41 l0 x7_1).f0), .int .i64 0, .int .i64 0, .int .i64 0, .int .i64 0, .int .i64 0]) ?_ 1 _ rfl; (with_reducible repeat (first | refine blk_drewN ?_ _ | refine blk_drew ?_ | refine blk_alloc ?_ _)); refine blk_put (cs := #[.int .i64 0, .int .i64 0, .int .i64 0, .int .i64 0, .int .i64 0, .int .i64 0]) ?_ 0 _ rfl; (with_reducible repeat (first | refine blk_drewN ?_ _ | refine blk_drew ?_ | refine blk_alloc ?_ _)); exact BK124.out⟩
     have n1_ : Aside0 (Below w.heap.size w ((((((w12.setCell ⟨gb124, 0, none⟩ (.int .i64 ((rd_T41 l0 x7_1).f0))).setCell ⟨gb124, 1, none⟩ (.int .i64 ((rd_T41 l0 x7_1).f1))).setCell ⟨gb124, 2, none⟩ (.int .i64 ((rd_T41 l0 x7_1).f2))).setCell ⟨gb124, 3, none⟩ (.int .i64 ((rd_T41 l0 x7_1).f3))).setCell ⟨gb124, 4, none⟩ (.int .i64 ((rd_T41 l0 x7_1).f4))).setCell ⟨gb124, 5, none⟩ (.int .i64 ((rd_T41 l0 x7_1).f5)))) := ⟨by repeat (first | (with_reducible first | exact HB.out | apply below_alloc | apply pw_below_drewN | apply below_drew1 | refine below_set ?_ GE124.out) | exact HB.out)⟩
     (try clear BK124)
     (try clear HB)
     generalize ((((((w12.setCell ⟨gb124, 0, none⟩ (.int .i64 ((rd_T41 l0 x7_1).f0))).setCell ⟨gb124, 1, none⟩ (.int .i64 ((rd_T41 l0 x7_1).f1))).setCell ⟨gb124, 2, none⟩ (.int .i64 ((rd_T41 l0 x7_1).f2))).setCell ⟨gb124, 3, none⟩ (.int .i64 ((rd_T41 l0 x7_1).f3))).setCell ⟨gb124, 4, none⟩ (.int .i64 ((rd_T41 l0 x7_1).f4))).setCell ⟨gb124, 5, none⟩ (.int .i64 ((rd_T41 l0 x7_1).f5))) = w14 at n0_ n1_ ⊢
     have BK124 := n0_
     have HB := n1_
     clear n0_ n1_
     have n0_ := Aside0.mk (blk_drew BK124.out)
     have n1_ := Aside0.mk (below_drew1 HB.out)
     clear BK124
     clear HB
     have BK124 := n0_
     have HB := n1_
     clear n0_ n1_
     have p126 : 0 ≤ ((ji8) : Int) := of_decide_eq_true (by first | (with_reducible assumption) | assumption)
     have q126 : (ji8) < (l0.length : Int) := of_decide_eq_true (by first | (with_reducible assumption) | assumption)
     obtain ⟨ad126, e126, hx126_0, hx126_1, hx126_2, hx126_3, hx126_4, hx126_5⟩ := at_T41 HR0.out (ji8) p126 q126
     have hw126_5 := hx126_5
     have hw126_4 := hx126_4
     have hw126_3 := hx126_3
     have hw126_2 := hx126_2
     have hw126_1 := hx126_1
     have hw126_0 := hx126_0
     obtain rfl : ad123 = ad126 := (by injection e126)
     replace hx126_0 := up_ hx126_0 HB.out
     replace hx126_1 := up_ hx126_1 HB.out
     replace hx126_2 := up_ hx126_2 HB.out
     replace hx126_3 := up_ hx126_3 HB.out
     replace hx126_4 := up_ hx126_4 HB.out
     replace hx126_5 := up_ hx126_5 HB.out
     replace p126 := eq_true p126
     replace q126 := eq_true q126
     refine start_ (n := 27) (S := fun w' => w'.cell? ⟨gb124, 0, none⟩ = some (.int .i64 ((rd_T41 l0 x7_1).f0)) ∧ w'.cell? ⟨gb124, 1, none⟩ = some (.int .i64 ((rd_T41 l0 x7_1).f1)) ∧ w'.cell? ⟨gb124, 2, none⟩ = some (.int .i64 ((rd_T41 l0 x7_1).f2)) ∧ w'.cell? ⟨gb124, 3, none⟩ = some (.int .i64 ((rd_T41 l0 x7_1).f3)) ∧ w'.cell? ⟨gb124, 4, none⟩ = some (.int .i64 ((rd_T41 l0 x7_1).f4)) ∧ w'.cell? ⟨gb124, 5, none⟩ = some (.int .i64 ((rd_T41 l0 x7_1).f5)) ∧ w'.cell? (ad123.add (((ji8)).toNat * 6)) = some (.int .i64 ((rd_T41 l0 (ji8)).f0)) ∧ w'.cell? ⟨(ad123.add (((ji8)).toNat * 6)).block, (ad123.add (((ji8)).toNat * 6)).off + 1, none⟩ = some (.int .i64 ((rd_T41 l0 (ji8)).f1)) ∧ w'.cell? ⟨(ad123.add (((ji8)).toNat * 6)).block, (ad123.add (((ji8)).toNat * 6)).off + 2, none⟩ = some (.int .i64 ((rd_T41 l0 (ji8)).f2)) ∧ w'.cell? ⟨(ad123.add (((ji8)).toNat * 6)).block, (ad123.add (((ji8)).toNat * 6)).off + 3, none⟩ = some (.int .i64 ((rd_T41 l0 (ji8)).f3)) ∧ w'.cell? ⟨(ad123.add (((ji8)).toNat * 6)).block, (ad123.add (((ji8)).toNat * 6)).off + 4, none⟩ = some (.int .i64 ((rd_T41 l0 (ji8)).f4)) ∧ w'.cell? ⟨(ad123.add (((ji8)).toNat * 6)).block, (ad123.add (((ji8)).toNat * 6)).off + 5, none⟩ = some (.int .i64 ((rd_T41 l0 (ji8)).f5))) (ds := []) z0_ (by kernel_rfl) rfl rfl ⟨(blk_cell BK124.out 0).trans rfl, (blk_cell BK124.out 1).trans rfl, (blk_cell BK124.out 2).trans rfl, (blk_cell BK124.out 3).trans rfl, (blk_cell BK124.out 4).trans rfl, (blk_cell BK124.out 5).trans rfl, ((HB.out.cell (World.block_lt_of_cell? w _ hw126_0)).trans hw126_0), ((HB.out.cell (World.block_lt_of_cell? w _ hw126_1)).trans hw126_1), ((HB.out.cell (World.block_lt_of_cell? w _ hw126_2)).trans hw126_2), ((HB.out.cell (World.block_lt_of_cell? w _ hw126_3)).trans hw126_3), ((HB.out.cell (World.block_lt_of_cell? w _ hw126_4)).trans hw126_4), ((HB.out.cell (World.block_lt_of_cell? w _ hw126_5)).trans hw126_5)⟩ (fun hHeld => ?_); refine with_tabW region_Check.tab4 region_Check.bits4 (fun HT_ HW_ => ?_)
     generalize w14.drew = w15 at BK124 HB hx126_0 hx126_1 hx126_2 hx126_3 hx126_4 hx126_5 hHeld ⊢
     refine take_ (i := 0) (N := some 12) (v := ?_) (a' := ?_) z1_ rfl rfl (take_ofW HT_.out HW_.out (by kernel_rfl)) (fun _ _ _ h => h) (Or.inl ⟨by rfl, ?_⟩) hHeld ?_ ?_; rotate_left; rintro w' ⟨s0, s1, s2, s3, s4, s5, s6, s7, s8, s9, s10, s11⟩; go_simp; with_reducible rfl; rotate_left; simp only [Act.put, sA_, sB_, sC_, i64_w, i32_w]; rfl
     refine one_ (i := 1) (N := some 13) z2_ rfl rfl (one_of HT_.out (by kernel_rfl)) (by decide) (fun K hK => ?_)
     refine goes_ Try.func77 (by kernel_rfl) rfl #[.agg #[.int .i64 ((rd_T41 l0 x7_1).f0), .int .i64 ((rd_T41 l0 x7_1).f1), .int .i64 ((rd_T41 l0 x7_1).f2), .int .i64 ((rd_T41 l0 x7_1).f3), .int .i64 ((rd_T41 l0 x7_1).f4), .int .i64 ((rd_T41 l0 x7_1).f5)]] (by rfl) rfl rfl (by (try simp only [List.map_toArray, List.map_cons, List.map_nil]); first | done | rfl | (simp only [List.length_drop, List.length_take]; rfl)) ?_
     with_reducible refine (region_may.calls k1 ((rd_T41 l0 x7_1).f0) ((rd_T41 l0 x7_1).f1) ((rd_T41 l0 x7_1).f2) ((rd_T41 l0 x7_1).f3) ((rd_T41 l0 x7_1).f4) ((rd_T41 l0 x7_1).f5) true _ A5.out).mono ?_
     rintro e w16 ⟨rfl, hb⟩
     refine ⟨_, rfl, ?_⟩
     have n0_ := Aside0.mk (blk_below (g := gb124) (o := .cells #[.int .i64 ((rd_T41 l0 x7_1).f0), .int .i64 ((rd_T41 l0 x7_1).f1), .int .i64 ((rd_T41 l0 x7_1).f2), .int .i64 ((rd_T41 l0 x7_1).f3), .int .i64 ((rd_T41 l0 x7_1).f4), .int .i64 ((rd_T41 l0 x7_1).f5)] 41 (0, 0)) (by (with_reducible repeat (first | refine blk_drewN ?_ _ | refine blk_drew ?_ | refine blk_alloc ?_ _)); exact BK124.out) hb)
     have n1_ := Aside0.mk (below_step (by repeat (first | (with_reducible first | exact HB.out | apply below_alloc | apply pw_below_drewN | apply below_drew1 | refine below_set ?_ GE124.out) | exact HB.out)) hb)
     clear BK124
     clear HB
     have BK124 := n0_
     have HB := n1_
     clear n0_ n1_
     (try clear hb)
     (try clear hb2)
     (try clear hk)
     (try clear hi)
     refine hK.out _ _ ⟨(blk_cell BK124.out 0).trans rfl, (blk_cell BK124.out 1).trans rfl, (blk_cell BK124.out 2).trans rfl, (blk_cell BK124.out 3).trans rfl, (blk_cell BK124.out 4).trans rfl, (blk_cell BK124.out 5).trans rfl, ((HB.out.cell (World.block_lt_of_cell? w _ hw126_0)).trans hw126_0), ((HB.out.cell (World.block_lt_of_cell? w _ hw126_1)).trans hw126_1), ((HB.out.cell (World.block_lt_of_cell? w _ hw126_2)).trans hw126_2), ((HB.out.cell (World.block_lt_of_cell? w _ hw126_3)).trans hw126_3), ((HB.out.cell (World.block_lt_of_cell? w _ hw126_4)).trans hw126_4), ((HB.out.cell (World.block_lt_of_cell? w _ hw126_5)).trans hw126_5)⟩ (fun hHeld => ?_)
     clear hK K
     refine norm_ (a' := ?_) ?_ ?_
     rotate_left
     · show Act.put _ (some 13) _ = _
       simp only [Act.put, sA_, sB_, sC_, i64_w, i32_w]
       rfl
     refine pure_ (i := 2) (N := some 14) (v := ?_) (a' := ?_) z3_ rfl rfl (any_of HT_.out (by kernel_rfl)) (fun _ _ _ h => h) (Or.inl ⟨by rfl, ?_⟩) ?_ ?_; rotate_left; intro w'; go_simp; with_reducible rfl; rotate_left; simp only [Act.put, sA_, sB_, sC_, i64_w, i32_w]; rfl
     refine pure_ (i := 3) (N := some 15) (v := ?_) (a' := ?_) z4_ rfl rfl (any_of HT_.out (by kernel_rfl)) (fun _ _ _ h => h) (Or.inl ⟨by rfl, ?_⟩) ?_ ?_; rotate_left; intro w'; go_simp; with_reducible rfl; rotate_left; simp only [Act.put, sA_, sB_, sC_, i64_w, i32_w]; rfl
     refine pure_ (i := 4) (N := some 16) (v := ?_) (a' := ?_) z5_ rfl rfl (any_of HT_.out (by kernel_rfl)) (fun _ _ _ h => h) (Or.inl ⟨by rfl, ?_⟩) ?_ ?_; rotate_left; intro w'; go_simp; with_reducible rfl; rotate_left; simp only [Act.put, sA_, sB_, sC_, i64_w, i32_w]; rfl
     refine pure_ (i := 5) (N := some 17) (v := ?_) (a' := ?_) z6_ rfl rfl (any_of HT_.out (by kernel_rfl)) (fun _ _ _ h => h) (Or.inl ⟨by rfl, ?_⟩) ?_ ?_; rotate_left; intro w'; go_simp; with_reducible rfl; rotate_left; simp only [Act.put, sA_, sB_, sC_, i64_w, i32_w]; rfl
     refine pure_ (i := 6) (N := some 18) (v := ?_) (a' := ?_) z7_ rfl rfl (any_of HT_.out (by kernel_rfl)) (fun _ _ _ h => h) (Or.inl ⟨by rfl, ?_⟩) ?_ ?_; rotate_left; intro w'; go_simp; with_reducible rfl; rotate_left; simp only [Act.put, sA_, sB_, sC_, i64_w, i32_w]; rfl
     refine pure_ (i := 7) (N := some 19) (v := ?_) (a' := ?_) z8_ rfl rfl (any_of HT_.out (by kernel_rfl)) (fun _ _ _ h => h) (Or.inl ⟨by rfl, ?_⟩) ?_ ?_; rotate_left; intro w'; go_simp; with_reducible rfl; rotate_left; simp only [Act.put, sA_, sB_, sC_, i64_w, i32_w]; rfl
     refine pure_ (i := 9) (N := some 21) (v := ?_) (a' := ?_) z28_ rfl rfl (any_of HT_.out (by kernel_rfl)) (fun _ _ _ h => h) (Or.inl ⟨by rfl, ?_⟩) ?_ ?_; rotate_left; intro w'; go_simp; with_reducible rfl; rotate_left; simp only [Act.put, sA_, sB_, sC_, i64_w, i32_w]; rfl
     refine pure_ (i := 10) (N := some 22) (v := ?_) (a' := ?_) z29_ rfl rfl (any_of HT_.out (by kernel_rfl)) (fun _ _ _ h => h) (Or.inl ⟨by rfl, ?_⟩) ?_ ?_; rotate_left; intro w'; go_simp; with_reducible rfl; rotate_left; simp only [Act.put, sA_, sB_, sC_, i64_w, i32_w]; rfl
     refine pure_ (i := 11) (N := some 23) (v := ?_) (a' := ?_) z30_ rfl rfl (any_of HT_.out (by kernel_rfl)) (fun _ _ _ h => h) (Or.inl ⟨by rfl, ?_⟩) ?_ ?_; rotate_left; intro w'; go_simp; with_reducible rfl; rotate_left; simp only [Act.put, sA_, sB_, sC_, i64_w, i32_w]; rfl
     refine pure_ (i := 12) (N := some 24) (v := ?_) (a' := ?_) z31_ rfl rfl (any_of HT_.out (by kernel_rfl)) (fun _ _ _ h => h) (Or.inl ⟨by rfl, ?_⟩) ?_ ?_; rotate_left; intro w'; go_simp; with_reducible rfl; rotate_left; simp only [Act.put, sA_, sB_, sC_, i64_w, i32_w]; rfl
     refine pure_ (i := 13) (N := some 25) (v := ?_) (a' := ?_) z32_ rfl rfl (any_of HT_.out (by kernel_rfl)) (fun _ _ _ h => h) (Or.inl ⟨by rfl, ?_⟩) ?_ ?_; rotate_left; intro w'; go_simp; with_reducible rfl; rotate_left; simp only [Act.put, sA_, sB_, sC_, i64_w, i32_w]; rfl
     refine take_ (i := 8) (N := some 20) (v := ?_) (a' := ?_) z14_ rfl rfl (take_ofW HT_.out HW_.out (by kernel_rfl)) (fun _ _ _ h => h) (Or.inl ⟨by rfl, ?_⟩) hHeld ?_ ?_; rotate_left; rintro w' ⟨s0, s1, s2, s3, s4, s5, s6, s7, s8, s9, s10, s11⟩; go_simp; with_reducible rfl; rotate_left; simp only [Act.put, sA_, sB_, sC_, i64_w, i32_w]; rfl
     refine take_ (i := 14) (N := some 26) (v := ?_) (a' := ?_) z15_ rfl rfl (take_ofW HT_.out HW_.out (by kernel_rfl)) (fun _ _ _ h => h) (Or.inl ⟨by rfl, ?_⟩) hHeld ?_ ?_; rotate_left; rintro w' ⟨s0, s1, s2, s3, s4, s5, s6, s7, s8, s9, s10, s11⟩; go_simp; with_reducible rfl; rotate_left; simp only [Act.put, sA_, sB_, sC_, i64_w, i32_w]; rfl
     refine pure_ (i := 15) (N := some 27) (v := ?_) (a' := ?_) z16_ rfl rfl (any_of HT_.out (by kernel_rfl)) (fun _ _ _ h => h) (Or.inl ⟨by rfl, ?_⟩) ?_ ?_; rotate_left; intro w'; go_simp; with_reducible rfl; rotate_left; simp only [Act.put, sA_, sB_, sC_, i64_w, i32_w]; rfl
     refine pure_ (i := 16) (N := some 28) (v := ?_) (a' := ?_) z17_ rfl rfl (any_of HT_.out (by kernel_rfl)) (fun _ _ _ h => h) (Or.inl ⟨by rfl, ?_⟩) ?_ ?_; rotate_left; intro w'; go_simp; with_reducible rfl; rotate_left; simp only [Act.put, sA_, sB_, sC_, i64_w, i32_w]; rfl
     refine pure_ (i := 17) (N := some 29) (v := undef) (a' := ?_) z18_ rfl rfl (any_of HT_.out (by kernel_rfl)) (fun _ _ _ h => h) (Or.inr ⟨by rfl, rfl⟩) ?_ ?_
     rotate_left
     · simp only [Act.put, sA_, sB_, sC_, i64_w, i32_w]
       rfl
     refine pure_ (i := 18) (N := some 30) (v := undef) (a' := ?_) z19_ rfl rfl (any_of HT_.out (by kernel_rfl)) (fun _ _ _ h => h) (Or.inr ⟨by rfl, rfl⟩) ?_ ?_
     rotate_left
     · simp only [Act.put, sA_, sB_, sC_, i64_w, i32_w]
       rfl
     refine pure_ (i := 19) (N := some 31) (v := undef) (a' := ?_) z20_ rfl rfl (any_of HT_.out (by kernel_rfl)) (fun _ _ _ h => h) (Or.inr ⟨by rfl, rfl⟩) ?_ ?_
     rotate_left
     · simp only [Act.put, sA_, sB_, sC_, i64_w, i32_w]
       rfl
     refine pure_ (i := 20) (N := some 32) (v := undef) (a' := ?_) z21_ rfl rfl (any_of HT_.out (by kernel_rfl)) (fun _ _ _ h => h) (Or.inr ⟨by rfl, rfl⟩) ?_ ?_
     rotate_left
     · simp only [Act.put, sA_, sB_, sC_, i64_w, i32_w]
       rfl
     refine pure_ (i := 21) (N := some 33) (v := undef) (a' := ?_) z22_ rfl rfl (any_of HT_.out (by kernel_rfl)) (fun _ _ _ h => h) (Or.inr ⟨by rfl, rfl⟩) ?_ ?_
     rotate_left
     · simp only [Act.put, sA_, sB_, sC_, i64_w, i32_w]
       rfl
     refine pure_ (i := 22) (N := some 34) (v := undef) (a' := ?_) z23_ rfl rfl (any_of HT_.out (by kernel_rfl)) (fun _ _ _ h => h) (Or.inr ⟨by rfl, rfl⟩) ?_ ?_
     rotate_left
     · simp only [Act.put, sA_, sB_, sC_, i64_w, i32_w]
       rfl
     refine pure_ (i := 23) (N := some 35) (v := undef) (a' := ?_) z24_ rfl rfl (any_of HT_.out (by kernel_rfl)) (fun _ _ _ h => h) (Or.inr ⟨by rfl, rfl⟩) ?_ ?_
     rotate_left
     · simp only [Act.put, sA_, sB_, sC_, i64_w, i32_w]
       rfl
     refine pure_ (i := 24) (N := some 36) (v := ?_) (a' := ?_) z25_ rfl rfl (any_of HT_.out (by kernel_rfl)) (fun _ _ _ h => h) (Or.inl ⟨by rfl, ?_⟩) ?_ ?_; rotate_left; intro w'; go_simp; with_reducible rfl; rotate_left; simp only [Act.put, sA_, sB_, sC_, i64_w, i32_w]; rfl
     refine pure_ (i := 25) (N := some 37) (v := ?_) (a' := ?_) z26_ rfl rfl (any_of HT_.out (by kernel_rfl)) (fun _ _ _ h => h) (Or.inl ⟨by rfl, ?_⟩) ?_ ?_; rotate_left; intro w'; go_simp; with_reducible rfl; rotate_left; simp only [Act.put, sA_, sB_, sC_, i64_w, i32_w]; rfl
     refine pure_ (i := 26) (N := some 38) (v := ?_) (a' := ?_) z27_ rfl rfl (any_of HT_.out (by kernel_rfl)) (fun _ _ _ h => h) (Or.inl ⟨by rfl, ?_⟩) ?_ ?_; rotate_left; intro w'; go_simp; with_reducible rfl; rotate_left; simp only [Act.put, sA_, sB_, sC_, i64_w, i32_w]; rfl
     refine done_ (done_of HT_.out (by kernel_rfl)) ?_
     try go_wp2
     go_ret
     exact ⟨by first | rfl | (simp [errW_none, errW_some] <;> rfl) | (simp only [← hji8]; first | rfl | (simp [errW_none, errW_some] <;> rfl)) | (simp [*, errW_none, errW_some] <;> rfl), by repeat (first | (with_reducible first | exact HB.out | apply below_alloc | apply pw_below_drewN | apply below_drew1 | refine below_set ?_ GE124.out) | exact HB.out)⟩
   rw [if_neg c11] at H
   have c11b0 : decide (((rd_T41 l0 x7_1).f0) < ((rd_T41 l0 (ji8)).f1)) = false := decide_eq_false c11
   clear c11
   replace H := Option.bind_eq_some_iff.mp H
   obtain ⟨t128, A170, H⟩ := H
   replace H : (if t128 = true then (some 1) else (region_Check.l0 k1 l0 l0 (l0.length : Int) (wrap64 (x7_1 + 1)))) = some r := H
   have A17 := Aside0.mk A170
   clear A170
   by_cases c18 : t128 = true
   · subst c18
     have H1 : (some 1) = some r := by rw [if_pos rfl] at H; exact H
     clear H
     have H := H1
     clear H1
     obtain rfl := Option.some.inj H
     have p123 : 0 ≤ (x7_1 : Int) := of_decide_eq_true (by first | (with_reducible assumption) | assumption)
     have q123 : x7_1 < (l0.length : Int) := of_decide_eq_true (by first | (with_reducible assumption) | assumption)
     obtain ⟨ad123, e123, hx123_0, hx123_1, hx123_2, hx123_3, hx123_4, hx123_5⟩ := at_T41 HR0.out x7_1 p123 q123
     cases e123
     replace hx123_0 := up_ hx123_0 HB.out
     replace hx123_1 := up_ hx123_1 HB.out
     replace hx123_2 := up_ hx123_2 HB.out
     replace hx123_3 := up_ hx123_3 HB.out
     replace hx123_4 := up_ hx123_4 HB.out
     replace hx123_5 := up_ hx123_5 HB.out
     replace p123 := eq_true p123
     replace q123 := eq_true q123
     try go_wp2_with (first | ((with_reducible refine gate_dst (N := 4) rfl ?_); refine box_event ?hg (N := 4) ?hd (cs := #[.int .i64 0, .int .i64 0, .int .i64 0, .int .i64 0, .int .i64 0, .int .i64 0]) (t := 41) ?hr ?_; (case hd => rfl); (case hg => rfl); (case hr => first | (go_simp; done) | (go_simp; rfl)); intro gb124 hg w19 hbox hb; have n0_ := Aside0.mk (below_step (by repeat (first | (with_reducible first | exact HB.out | apply below_alloc | apply pw_below_drewN | apply below_drew1) | exact HB.out)) hb); have n1_ := Aside0.mk (hbox); have n2_ := Aside0.mk ((by rw [hg]; exact (below_size (by repeat (first | (with_reducible first | exact HB.out | apply below_alloc | apply pw_below_drewN | apply below_drew1) | exact HB.out))) : w.heap.size ≤ gb124)); have n3_ := Aside0.mk ((by rw [hg]; exact (below_size (by repeat (first | (with_reducible first | exact HB.out | apply below_alloc | apply pw_below_drewN | apply below_drew1) | exact HB.out))) : w.heap.size ≤ gb124)); clear HB; have HB := n0_; have BK124 := n1_; have GW124 := n2_; have GE124 := n3_; clear n0_ n1_ n2_ n3_; clear hb hbox hg; have hcz20_0 : w19.cell? ⟨gb124, 0, none⟩ = some (.int .i64 0) := (blk_cell BK124.out 0).trans rfl; have hcz20_1 : w19.cell? ⟨gb124, 1, none⟩ = some (.int .i64 0) := (blk_cell BK124.out 1).trans rfl; have hcz20_2 : w19.cell? ⟨gb124, 2, none⟩ = some (.int .i64 0) := (blk_cell BK124.out 2).trans rfl; have hcz20_3 : w19.cell? ⟨gb124, 3, none⟩ = some (.int .i64 0) := (blk_cell BK124.out 3).trans rfl; have hcz20_4 : w19.cell? ⟨gb124, 4, none⟩ = some (.int .i64 0) := (blk_cell BK124.out 4).trans rfl; have hcz20_5 : w19.cell? ⟨gb124, 5, none⟩ = some (.int .i64 0) := (blk_cell BK124.out 5).trans rfl; have hfz20_0 := blk_frozen BK124.out 0; have hfz20_1 := blk_frozen BK124.out 1; have hfz20_2 := blk_frozen BK124.out 2; have hfz20_3 := blk_frozen BK124.out 3; have hfz20_4 := blk_frozen BK124.out 4; have hfz20_5 := blk_frozen BK124.out 5))
     have n0_ : Aside0 (((((((w19.setCell ⟨gb124, 0, none⟩ (.int .i64 ((rd_T41 l0 x7_1).f0))).setCell ⟨gb124, 1, none⟩ (.int .i64 ((rd_T41 l0 x7_1).f1))).setCell ⟨gb124, 2, none⟩ (.int .i64 ((rd_T41 l0 x7_1).f2))).setCell ⟨gb124, 3, none⟩ (.int .i64 ((rd_T41 l0 x7_1).f3))).setCell ⟨gb124, 4, none⟩ (.int .i64 ((rd_T41 l0 x7_1).f4))).setCell ⟨gb124, 5, none⟩ (.int .i64 ((rd_T41 l0 x7_1).f5))).heap[gb124]? = some (.cells #[.int .i64 ((rd_T41 l0 x7_1).f0), .int .i64 ((rd_T41 l0 x7_1).f1), .int .i64 ((rd_T41 l0 x7_1).f2), .int .i64 ((rd_T41 l0 x7_1).f3), .int .i64 ((rd_T41 l0 x7_1).f4), .int .i64 ((rd_T41 l0 x7_1).f5)] 41 (0, 0))) := ⟨by (with_reducible repeat (first | refine blk_drewN ?_ _ | refine blk_drew ?_ | refine blk_alloc ?_ _)); refine blk_put (cs := #[.int .i64 ((rd_T41 l0 x7_1).f0), .int .i64 ((rd_T41 l0 x7_1).f1), .int .i64 ((rd_T41 l0 x7_1).f2), .int .i64 ((rd_T41 l0 x7_1).f3), .int .i64 ((rd_T41 l0 x7_1).f4), .int .i64 0]) ?_ 5 _ rfl; (with_reducible repeat (first | refine blk_drewN ?_ _ | refine blk_drew ?_ | refine blk_alloc ?_ _)); refine blk_put (cs := #[.int .i64 ((rd_T41 l0 x7_1).f0), .int .i64 ((rd_T41 l0 x7_1).f1), .int .i64 ((rd_T41 l0 x7_1).f2), .int .i64 ((rd_T41 l0 x7_1).f3), .int .i64 0, .int .i64 0]) ?_ 4 _ rfl; (with_reducible repeat (first | refine blk_drewN ?_ _ | refine blk_drew ?_ | refine blk_alloc ?_ _)); refine blk_put (cs := #[.int .i64 ((rd_T41 l0 x7_1).f0), .int .i64 ((rd_T41 l0 x7_1).f1), .int .i64 ((rd_T41 l0 x7_1).f2), .int .i64 0, .int .i64 0, .int .i64 0]) ?_ 3 _ rfl; (with_reducible repeat (first | refine blk_drewN ?_ _ | refine blk_drew ?_ | refine blk_alloc ?_ _)); refine blk_put (cs := #[.int .i64 ((rd_T41 l0 x7_1).f0), .int .i64 ((rd_T41 l0 x7_1).f1), .int .i64 0, .int .i64 0, .int .i64 0, .int .i64 0]) ?_ 2 _ rfl; (with_reducible repeat (first | refine blk_drewN ?_ _ | refine blk_drew ?_ | refine blk_alloc ?_ _)); refine blk_put (cs := #[.int .i64 ((rd_T41 l0 x7_1).f0), .int .i64 0, .int .i64 0, .int .i64 0, .int .i64 0, .int .i64 0]) ?_ 1 _ rfl; (with_reducible repeat (first | refine blk_drewN ?_ _ | refine blk_drew ?_ | refine blk_alloc ?_ _)); refine blk_put (cs := #[.int .i64 0, .int .i64 0, .int .i64 0, .int .i64 0, .int .i64 0, .int .i64 0]) ?_ 0 _ rfl; (with_reducible repeat (first | refine blk_drewN ?_ _ | refine blk_drew ?_ | refine blk_alloc ?_ _)); exact BK124.out⟩
     have n1_ : Aside0 (Below w.heap.size w ((((((w19.setCell ⟨gb124, 0, none⟩ (.int .i64 ((rd_T41 l0 x7_1).f0))).setCell ⟨gb124, 1, none⟩ (.int .i64 ((rd_T41 l0 x7_1).f1))).setCell ⟨gb124, 2, none⟩ (.int .i64 ((rd_T41 l0 x7_1).f2))).setCell ⟨gb124, 3, none⟩ (.int .i64 ((rd_T41 l0 x7_1).f3))).setCell ⟨gb124, 4, none⟩ (.int .i64 ((rd_T41 l0 x7_1).f4))).setCell ⟨gb124, 5, none⟩ (.int .i64 ((rd_T41 l0 x7_1).f5)))) := ⟨by repeat (first | (with_reducible first | exact HB.out | apply below_alloc | apply pw_below_drewN | apply below_drew1 | refine below_set ?_ GE124.out) | exact HB.out)⟩
     (try clear BK124)
     (try clear HB)
     generalize ((((((w19.setCell ⟨gb124, 0, none⟩ (.int .i64 ((rd_T41 l0 x7_1).f0))).setCell ⟨gb124, 1, none⟩ (.int .i64 ((rd_T41 l0 x7_1).f1))).setCell ⟨gb124, 2, none⟩ (.int .i64 ((rd_T41 l0 x7_1).f2))).setCell ⟨gb124, 3, none⟩ (.int .i64 ((rd_T41 l0 x7_1).f3))).setCell ⟨gb124, 4, none⟩ (.int .i64 ((rd_T41 l0 x7_1).f4))).setCell ⟨gb124, 5, none⟩ (.int .i64 ((rd_T41 l0 x7_1).f5))) = w21 at n0_ n1_ ⊢
     have BK124 := n0_
     have HB := n1_
     clear n0_ n1_
     have n0_ := Aside0.mk (blk_drew BK124.out)
     have n1_ := Aside0.mk (below_drew1 HB.out)
     clear BK124
     clear HB
     have BK124 := n0_
     have HB := n1_
     clear n0_ n1_
     have p126 : 0 ≤ ((ji8) : Int) := of_decide_eq_true (by first | (with_reducible assumption) | assumption)
     have q126 : (ji8) < (l0.length : Int) := of_decide_eq_true (by first | (with_reducible assumption) | assumption)
     obtain ⟨ad126, e126, hx126_0, hx126_1, hx126_2, hx126_3, hx126_4, hx126_5⟩ := at_T41 HR0.out (ji8) p126 q126
     have hw126_5 := hx126_5
     have hw126_4 := hx126_4
     have hw126_3 := hx126_3
     have hw126_2 := hx126_2
     have hw126_1 := hx126_1
     have hw126_0 := hx126_0
     obtain rfl : ad123 = ad126 := (by injection e126)
     replace hx126_0 := up_ hx126_0 HB.out
     replace hx126_1 := up_ hx126_1 HB.out
     replace hx126_2 := up_ hx126_2 HB.out
     replace hx126_3 := up_ hx126_3 HB.out
     replace hx126_4 := up_ hx126_4 HB.out
     replace hx126_5 := up_ hx126_5 HB.out
     replace p126 := eq_true p126
     replace q126 := eq_true q126
     have p127 : 0 ≤ ((ji8) : Int) := of_decide_eq_true (by first | (with_reducible assumption) | assumption)
     have q127 : (ji8) < (l0.length : Int) := of_decide_eq_true (by first | (with_reducible assumption) | assumption)
     obtain ⟨ad127, e127, hx127_0, hx127_1, hx127_2, hx127_3, hx127_4, hx127_5⟩ := at_T41 HR0.out (ji8) p127 q127
     have hw127_5 := hx127_5
     have hw127_4 := hx127_4
     have hw127_3 := hx127_3
     have hw127_2 := hx127_2
     have hw127_1 := hx127_1
     have hw127_0 := hx127_0
     obtain rfl : ad123 = ad127 := (by injection e127)
     replace hx127_0 := up_ hx127_0 HB.out
     replace hx127_1 := up_ hx127_1 HB.out
     replace hx127_2 := up_ hx127_2 HB.out
     replace hx127_3 := up_ hx127_3 HB.out
     replace hx127_4 := up_ hx127_4 HB.out
     replace hx127_5 := up_ hx127_5 HB.out
     replace p127 := eq_true p127
     replace q127 := eq_true q127
     refine start_ (n := 27) (S := fun w' => w'.cell? ⟨gb124, 0, none⟩ = some (.int .i64 ((rd_T41 l0 x7_1).f0)) ∧ w'.cell? ⟨gb124, 1, none⟩ = some (.int .i64 ((rd_T41 l0 x7_1).f1)) ∧ w'.cell? ⟨gb124, 2, none⟩ = some (.int .i64 ((rd_T41 l0 x7_1).f2)) ∧ w'.cell? ⟨gb124, 3, none⟩ = some (.int .i64 ((rd_T41 l0 x7_1).f3)) ∧ w'.cell? ⟨gb124, 4, none⟩ = some (.int .i64 ((rd_T41 l0 x7_1).f4)) ∧ w'.cell? ⟨gb124, 5, none⟩ = some (.int .i64 ((rd_T41 l0 x7_1).f5)) ∧ w'.cell? (ad123.add (((ji8)).toNat * 6)) = some (.int .i64 ((rd_T41 l0 (ji8)).f0)) ∧ w'.cell? ⟨(ad123.add (((ji8)).toNat * 6)).block, (ad123.add (((ji8)).toNat * 6)).off + 1, none⟩ = some (.int .i64 ((rd_T41 l0 (ji8)).f1)) ∧ w'.cell? ⟨(ad123.add (((ji8)).toNat * 6)).block, (ad123.add (((ji8)).toNat * 6)).off + 2, none⟩ = some (.int .i64 ((rd_T41 l0 (ji8)).f2)) ∧ w'.cell? ⟨(ad123.add (((ji8)).toNat * 6)).block, (ad123.add (((ji8)).toNat * 6)).off + 3, none⟩ = some (.int .i64 ((rd_T41 l0 (ji8)).f3)) ∧ w'.cell? ⟨(ad123.add (((ji8)).toNat * 6)).block, (ad123.add (((ji8)).toNat * 6)).off + 4, none⟩ = some (.int .i64 ((rd_T41 l0 (ji8)).f4)) ∧ w'.cell? ⟨(ad123.add (((ji8)).toNat * 6)).block, (ad123.add (((ji8)).toNat * 6)).off + 5, none⟩ = some (.int .i64 ((rd_T41 l0 (ji8)).f5)) ∧ w'.cell? (ad123.add (((ji8)).toNat * 6)) = some (.int .i64 ((rd_T41 l0 (ji8)).f0)) ∧ w'.cell? ⟨(ad123.add (((ji8)).toNat * 6)).block, (ad123.add (((ji8)).toNat * 6)).off + 1, none⟩ = some (.int .i64 ((rd_T41 l0 (ji8)).f1)) ∧ w'.cell? ⟨(ad123.add (((ji8)).toNat * 6)).block, (ad123.add (((ji8)).toNat * 6)).off + 2, none⟩ = some (.int .i64 ((rd_T41 l0 (ji8)).f2)) ∧ w'.cell? ⟨(ad123.add (((ji8)).toNat * 6)).block, (ad123.add (((ji8)).toNat * 6)).off + 3, none⟩ = some (.int .i64 ((rd_T41 l0 (ji8)).f3)) ∧ w'.cell? ⟨(ad123.add (((ji8)).toNat * 6)).block, (ad123.add (((ji8)).toNat * 6)).off + 4, none⟩ = some (.int .i64 ((rd_T41 l0 (ji8)).f4)) ∧ w'.cell? ⟨(ad123.add (((ji8)).toNat * 6)).block, (ad123.add (((ji8)).toNat * 6)).off + 5, none⟩ = some (.int .i64 ((rd_T41 l0 (ji8)).f5))) (ds := []) z0_ (by kernel_rfl) rfl rfl ⟨(blk_cell BK124.out 0).trans rfl, (blk_cell BK124.out 1).trans rfl, (blk_cell BK124.out 2).trans rfl, (blk_cell BK124.out 3).trans rfl, (blk_cell BK124.out 4).trans rfl, (blk_cell BK124.out 5).trans rfl, ((HB.out.cell (World.block_lt_of_cell? w _ hw126_0)).trans hw126_0), ((HB.out.cell (World.block_lt_of_cell? w _ hw126_1)).trans hw126_1), ((HB.out.cell (World.block_lt_of_cell? w _ hw126_2)).trans hw126_2), ((HB.out.cell (World.block_lt_of_cell? w _ hw126_3)).trans hw126_3), ((HB.out.cell (World.block_lt_of_cell? w _ hw126_4)).trans hw126_4), ((HB.out.cell (World.block_lt_of_cell? w _ hw126_5)).trans hw126_5), ((HB.out.cell (World.block_lt_of_cell? w _ hw127_0)).trans hw127_0), ((HB.out.cell (World.block_lt_of_cell? w _ hw127_1)).trans hw127_1), ((HB.out.cell (World.block_lt_of_cell? w _ hw127_2)).trans hw127_2), ((HB.out.cell (World.block_lt_of_cell? w _ hw127_3)).trans hw127_3), ((HB.out.cell (World.block_lt_of_cell? w _ hw127_4)).trans hw127_4), ((HB.out.cell (World.block_lt_of_cell? w _ hw127_5)).trans hw127_5)⟩ (fun hHeld => ?_); refine with_tabW region_Check.tab4 region_Check.bits4 (fun HT_ HW_ => ?_)
     generalize w21.drew = w22 at BK124 HB hx126_0 hx126_1 hx126_2 hx126_3 hx126_4 hx126_5 hx127_0 hx127_1 hx127_2 hx127_3 hx127_4 hx127_5 hHeld ⊢
     refine take_ (i := 0) (N := some 12) (v := ?_) (a' := ?_) z1_ rfl rfl (take_ofW HT_.out HW_.out (by kernel_rfl)) (fun _ _ _ h => h) (Or.inl ⟨by rfl, ?_⟩) hHeld ?_ ?_; rotate_left; rintro w' ⟨s0, s1, s2, s3, s4, s5, s6, s7, s8, s9, s10, s11, s12, s13, s14, s15, s16, s17⟩; go_simp; with_reducible rfl; rotate_left; simp only [Act.put, sA_, sB_, sC_, i64_w, i32_w]; rfl
     refine one_ (i := 1) (N := some 13) z2_ rfl rfl (one_of HT_.out (by kernel_rfl)) (by decide) (fun K hK => ?_)
     refine goes_ Try.func77 (by kernel_rfl) rfl #[.agg #[.int .i64 ((rd_T41 l0 x7_1).f0), .int .i64 ((rd_T41 l0 x7_1).f1), .int .i64 ((rd_T41 l0 x7_1).f2), .int .i64 ((rd_T41 l0 x7_1).f3), .int .i64 ((rd_T41 l0 x7_1).f4), .int .i64 ((rd_T41 l0 x7_1).f5)]] (by rfl) rfl rfl (by (try simp only [List.map_toArray, List.map_cons, List.map_nil]); first | done | rfl | (simp only [List.length_drop, List.length_take]; rfl)) ?_
     with_reducible refine (region_may.calls k1 ((rd_T41 l0 x7_1).f0) ((rd_T41 l0 x7_1).f1) ((rd_T41 l0 x7_1).f2) ((rd_T41 l0 x7_1).f3) ((rd_T41 l0 x7_1).f4) ((rd_T41 l0 x7_1).f5) true _ A5.out).mono ?_
     rintro e w23 ⟨rfl, hb⟩
     refine ⟨_, rfl, ?_⟩
     have n0_ := Aside0.mk (blk_below (g := gb124) (o := .cells #[.int .i64 ((rd_T41 l0 x7_1).f0), .int .i64 ((rd_T41 l0 x7_1).f1), .int .i64 ((rd_T41 l0 x7_1).f2), .int .i64 ((rd_T41 l0 x7_1).f3), .int .i64 ((rd_T41 l0 x7_1).f4), .int .i64 ((rd_T41 l0 x7_1).f5)] 41 (0, 0)) (by (with_reducible repeat (first | refine blk_drewN ?_ _ | refine blk_drew ?_ | refine blk_alloc ?_ _)); exact BK124.out) hb)
     have n1_ := Aside0.mk (below_step (by repeat (first | (with_reducible first | exact HB.out | apply below_alloc | apply pw_below_drewN | apply below_drew1 | refine below_set ?_ GE124.out) | exact HB.out)) hb)
     clear BK124
     clear HB
     have BK124 := n0_
     have HB := n1_
     clear n0_ n1_
     (try clear hb)
     (try clear hb2)
     (try clear hk)
     (try clear hi)
     refine hK.out _ _ ⟨(blk_cell BK124.out 0).trans rfl, (blk_cell BK124.out 1).trans rfl, (blk_cell BK124.out 2).trans rfl, (blk_cell BK124.out 3).trans rfl, (blk_cell BK124.out 4).trans rfl, (blk_cell BK124.out 5).trans rfl, ((HB.out.cell (World.block_lt_of_cell? w _ hw126_0)).trans hw126_0), ((HB.out.cell (World.block_lt_of_cell? w _ hw126_1)).trans hw126_1), ((HB.out.cell (World.block_lt_of_cell? w _ hw126_2)).trans hw126_2), ((HB.out.cell (World.block_lt_of_cell? w _ hw126_3)).trans hw126_3), ((HB.out.cell (World.block_lt_of_cell? w _ hw126_4)).trans hw126_4), ((HB.out.cell (World.block_lt_of_cell? w _ hw126_5)).trans hw126_5), ((HB.out.cell (World.block_lt_of_cell? w _ hw127_0)).trans hw127_0), ((HB.out.cell (World.block_lt_of_cell? w _ hw127_1)).trans hw127_1), ((HB.out.cell (World.block_lt_of_cell? w _ hw127_2)).trans hw127_2), ((HB.out.cell (World.block_lt_of_cell? w _ hw127_3)).trans hw127_3), ((HB.out.cell (World.block_lt_of_cell? w _ hw127_4)).trans hw127_4), ((HB.out.cell (World.block_lt_of_cell? w _ hw127_5)).trans hw127_5)⟩ (fun hHeld => ?_)
     clear hK K
     refine norm_ (a' := ?_) ?_ ?_
     rotate_left
     · show Act.put _ (some 13) _ = _
       simp only [Act.put, sA_, sB_, sC_, i64_w, i32_w]
       rfl
     refine pure_ (i := 2) (N := some 14) (v := ?_) (a' := ?_) z3_ rfl rfl (any_of HT_.out (by kernel_rfl)) (fun _ _ _ h => h) (Or.inl ⟨by rfl, ?_⟩) ?_ ?_; rotate_left; intro w'; go_simp; with_reducible rfl; rotate_left; simp only [Act.put, sA_, sB_, sC_, i64_w, i32_w]; rfl
     refine pure_ (i := 3) (N := some 15) (v := ?_) (a' := ?_) z4_ rfl rfl (any_of HT_.out (by kernel_rfl)) (fun _ _ _ h => h) (Or.inl ⟨by rfl, ?_⟩) ?_ ?_; rotate_left; intro w'; go_simp; with_reducible rfl; rotate_left; simp only [Act.put, sA_, sB_, sC_, i64_w, i32_w]; rfl
     refine pure_ (i := 4) (N := some 16) (v := ?_) (a' := ?_) z5_ rfl rfl (any_of HT_.out (by kernel_rfl)) (fun _ _ _ h => h) (Or.inl ⟨by rfl, ?_⟩) ?_ ?_; rotate_left; intro w'; go_simp; with_reducible rfl; rotate_left; simp only [Act.put, sA_, sB_, sC_, i64_w, i32_w]; rfl
     refine pure_ (i := 5) (N := some 17) (v := ?_) (a' := ?_) z6_ rfl rfl (any_of HT_.out (by kernel_rfl)) (fun _ _ _ h => h) (Or.inl ⟨by rfl, ?_⟩) ?_ ?_; rotate_left; intro w'; go_simp; with_reducible rfl; rotate_left; simp only [Act.put, sA_, sB_, sC_, i64_w, i32_w]; rfl
     refine pure_ (i := 6) (N := some 18) (v := ?_) (a' := ?_) z7_ rfl rfl (any_of HT_.out (by kernel_rfl)) (fun _ _ _ h => h) (Or.inl ⟨by rfl, ?_⟩) ?_ ?_; rotate_left; intro w'; go_simp; with_reducible rfl; rotate_left; simp only [Act.put, sA_, sB_, sC_, i64_w, i32_w]; rfl
     refine pure_ (i := 7) (N := some 19) (v := ?_) (a' := ?_) z8_ rfl rfl (any_of HT_.out (by kernel_rfl)) (fun _ _ _ h => h) (Or.inl ⟨by rfl, ?_⟩) ?_ ?_; rotate_left; intro w'; go_simp; with_reducible rfl; rotate_left; simp only [Act.put, sA_, sB_, sC_, i64_w, i32_w]; rfl
     refine pure_ (i := 9) (N := some 21) (v := ?_) (a' := ?_) z28_ rfl rfl (any_of HT_.out (by kernel_rfl)) (fun _ _ _ h => h) (Or.inl ⟨by rfl, ?_⟩) ?_ ?_; rotate_left; intro w'; go_simp; with_reducible rfl; rotate_left; simp only [Act.put, sA_, sB_, sC_, i64_w, i32_w]; rfl
     refine pure_ (i := 10) (N := some 22) (v := ?_) (a' := ?_) z29_ rfl rfl (any_of HT_.out (by kernel_rfl)) (fun _ _ _ h => h) (Or.inl ⟨by rfl, ?_⟩) ?_ ?_; rotate_left; intro w'; go_simp; with_reducible rfl; rotate_left; simp only [Act.put, sA_, sB_, sC_, i64_w, i32_w]; rfl
     refine pure_ (i := 11) (N := some 23) (v := ?_) (a' := ?_) z30_ rfl rfl (any_of HT_.out (by kernel_rfl)) (fun _ _ _ h => h) (Or.inl ⟨by rfl, ?_⟩) ?_ ?_; rotate_left; intro w'; go_simp; with_reducible rfl; rotate_left; simp only [Act.put, sA_, sB_, sC_, i64_w, i32_w]; rfl
     refine pure_ (i := 12) (N := some 24) (v := ?_) (a' := ?_) z31_ rfl rfl (any_of HT_.out (by kernel_rfl)) (fun _ _ _ h => h) (Or.inl ⟨by rfl, ?_⟩) ?_ ?_; rotate_left; intro w'; go_simp; with_reducible rfl; rotate_left; simp only [Act.put, sA_, sB_, sC_, i64_w, i32_w]; rfl
     refine pure_ (i := 13) (N := some 25) (v := ?_) (a' := ?_) z32_ rfl rfl (any_of HT_.out (by kernel_rfl)) (fun _ _ _ h => h) (Or.inl ⟨by rfl, ?_⟩) ?_ ?_; rotate_left; intro w'; go_simp; with_reducible rfl; rotate_left; simp only [Act.put, sA_, sB_, sC_, i64_w, i32_w]; rfl
     refine take_ (i := 8) (N := some 20) (v := ?_) (a' := ?_) z14_ rfl rfl (take_ofW HT_.out HW_.out (by kernel_rfl)) (fun _ _ _ h => h) (Or.inl ⟨by rfl, ?_⟩) hHeld ?_ ?_; rotate_left; rintro w' ⟨s0, s1, s2, s3, s4, s5, s6, s7, s8, s9, s10, s11, s12, s13, s14, s15, s16, s17⟩; go_simp; with_reducible rfl; rotate_left; simp only [Act.put, sA_, sB_, sC_, i64_w, i32_w]; rfl
     refine take_ (i := 14) (N := some 26) (v := ?_) (a' := ?_) z15_ rfl rfl (take_ofW HT_.out HW_.out (by kernel_rfl)) (fun _ _ _ h => h) (Or.inl ⟨by rfl, ?_⟩) hHeld ?_ ?_; rotate_left; rintro w' ⟨s0, s1, s2, s3, s4, s5, s6, s7, s8, s9, s10, s11, s12, s13, s14, s15, s16, s17⟩; go_simp; with_reducible rfl; rotate_left; simp only [Act.put, sA_, sB_, sC_, i64_w, i32_w]; rfl
     refine pure_ (i := 15) (N := some 27) (v := ?_) (a' := ?_) z16_ rfl rfl (any_of HT_.out (by kernel_rfl)) (fun _ _ _ h => h) (Or.inl ⟨by rfl, ?_⟩) ?_ ?_; rotate_left; intro w'; go_simp; with_reducible rfl; rotate_left; simp only [Act.put, sA_, sB_, sC_, i64_w, i32_w]; rfl
     refine pure_ (i := 16) (N := some 28) (v := ?_) (a' := ?_) z17_ rfl rfl (any_of HT_.out (by kernel_rfl)) (fun _ _ _ h => h) (Or.inl ⟨by rfl, ?_⟩) ?_ ?_; rotate_left; intro w'; go_simp; with_reducible rfl; rotate_left; simp only [Act.put, sA_, sB_, sC_, i64_w, i32_w]; rfl
     refine pure_ (i := 17) (N := some 29) (v := ?_) (a' := ?_) z18_ rfl rfl (any_of HT_.out (by kernel_rfl)) (fun _ _ _ h => h) (Or.inl ⟨by rfl, ?_⟩) ?_ ?_; rotate_left; intro w'; go_simp; with_reducible rfl; rotate_left; simp only [Act.put, sA_, sB_, sC_, i64_w, i32_w]; rfl
     refine pure_ (i := 18) (N := some 30) (v := ?_) (a' := ?_) z19_ rfl rfl (any_of HT_.out (by kernel_rfl)) (fun _ _ _ h => h) (Or.inl ⟨by rfl, ?_⟩) ?_ ?_; rotate_left; intro w'; go_simp; with_reducible rfl; rotate_left; simp only [Act.put, sA_, sB_, sC_, i64_w, i32_w]; rfl
     refine pure_ (i := 19) (N := some 31) (v := ?_) (a' := ?_) z20_ rfl rfl (any_of HT_.out (by kernel_rfl)) (fun _ _ _ h => h) (Or.inl ⟨by rfl, ?_⟩) ?_ ?_; rotate_left; intro w'; go_simp; with_reducible rfl; rotate_left; simp only [Act.put, sA_, sB_, sC_, i64_w, i32_w]; rfl
     refine pure_ (i := 20) (N := some 32) (v := ?_) (a' := ?_) z21_ rfl rfl (any_of HT_.out (by kernel_rfl)) (fun _ _ _ h => h) (Or.inl ⟨by rfl, ?_⟩) ?_ ?_; rotate_left; intro w'; go_simp; with_reducible rfl; rotate_left; simp only [Act.put, sA_, sB_, sC_, i64_w, i32_w]; rfl
     refine take_ (i := 21) (N := some 33) (v := ?_) (a' := ?_) z22_ rfl rfl (take_ofW HT_.out HW_.out (by kernel_rfl)) (fun _ _ _ h => h) (Or.inl ⟨by rfl, ?_⟩) hHeld ?_ ?_; rotate_left; rintro w' ⟨s0, s1, s2, s3, s4, s5, s6, s7, s8, s9, s10, s11, s12, s13, s14, s15, s16, s17⟩; go_simp; with_reducible rfl; rotate_left; simp only [Act.put, sA_, sB_, sC_, i64_w, i32_w]; rfl
     refine take_ (i := 22) (N := some 34) (v := ?_) (a' := ?_) z23_ rfl rfl (take_ofW HT_.out HW_.out (by kernel_rfl)) (fun _ _ _ h => h) (Or.inl ⟨by rfl, ?_⟩) hHeld ?_ ?_; rotate_left; rintro w' ⟨s0, s1, s2, s3, s4, s5, s6, s7, s8, s9, s10, s11, s12, s13, s14, s15, s16, s17⟩; go_simp; with_reducible rfl; rotate_left; simp only [Act.put, sA_, sB_, sC_, i64_w, i32_w]; rfl
     refine one_ (i := 23) (N := some 35) z24_ rfl rfl (one_of HT_.out (by kernel_rfl)) (by decide) (fun K hK => ?_)
     refine goes_ Try.func79 (by kernel_rfl) rfl #[.agg #[.int .i64 ((rd_T41 l0 (ji8)).f0), .int .i64 ((rd_T41 l0 (ji8)).f1), .int .i64 ((rd_T41 l0 (ji8)).f2), .int .i64 ((rd_T41 l0 (ji8)).f3), .int .i64 ((rd_T41 l0 (ji8)).f4), .int .i64 ((rd_T41 l0 (ji8)).f5)], .agg #[.int .i64 ((rd_T41 l0 x7_1).f0), .int .i64 ((rd_T41 l0 x7_1).f1), .int .i64 ((rd_T41 l0 x7_1).f2), .int .i64 ((rd_T41 l0 x7_1).f3), .int .i64 ((rd_T41 l0 x7_1).f4), .int .i64 ((rd_T41 l0 x7_1).f5)]] (by rfl) rfl rfl (by (try simp only [List.map_toArray, List.map_cons, List.map_nil]); first | done | (simp only [hji8]; rfl) | rfl | (simp only [List.length_drop, List.length_take]; rfl)) ?_
     with_reducible refine (region_one.calls ((rd_T41 l0 (ji8)).f0) ((rd_T41 l0 (ji8)).f1) ((rd_T41 l0 (ji8)).f2) ((rd_T41 l0 (ji8)).f3) ((rd_T41 l0 (ji8)).f4) ((rd_T41 l0 (ji8)).f5) ((rd_T41 l0 x7_1).f0) ((rd_T41 l0 x7_1).f1) ((rd_T41 l0 x7_1).f2) ((rd_T41 l0 x7_1).f3) ((rd_T41 l0 x7_1).f4) ((rd_T41 l0 x7_1).f5) true _ A17.out).mono ?_
     rintro e w24 ⟨rfl, hb⟩
     refine ⟨_, rfl, ?_⟩
     have n0_ := Aside0.mk (blk_below (g := gb124) (o := .cells #[.int .i64 ((rd_T41 l0 x7_1).f0), .int .i64 ((rd_T41 l0 x7_1).f1), .int .i64 ((rd_T41 l0 x7_1).f2), .int .i64 ((rd_T41 l0 x7_1).f3), .int .i64 ((rd_T41 l0 x7_1).f4), .int .i64 ((rd_T41 l0 x7_1).f5)] 41 (0, 0)) (by (with_reducible repeat (first | refine blk_drewN ?_ _ | refine blk_drew ?_ | refine blk_alloc ?_ _)); exact BK124.out) hb)
     have n1_ := Aside0.mk (below_step (by repeat (first | (with_reducible first | exact HB.out | apply below_alloc | apply pw_below_drewN | apply below_drew1 | refine below_set ?_ GE124.out) | exact HB.out)) hb)
     clear BK124
     clear HB
     have BK124 := n0_
     have HB := n1_
     clear n0_ n1_
     (try clear hb)
     (try clear hb2)
     (try clear hk)
     (try clear hi)
     refine hK.out _ _ ⟨(blk_cell BK124.out 0).trans rfl, (blk_cell BK124.out 1).trans rfl, (blk_cell BK124.out 2).trans rfl, (blk_cell BK124.out 3).trans rfl, (blk_cell BK124.out 4).trans rfl, (blk_cell BK124.out 5).trans rfl, ((HB.out.cell (World.block_lt_of_cell? w _ hw126_0)).trans hw126_0), ((HB.out.cell (World.block_lt_of_cell? w _ hw126_1)).trans hw126_1), ((HB.out.cell (World.block_lt_of_cell? w _ hw126_2)).trans hw126_2), ((HB.out.cell (World.block_lt_of_cell? w _ hw126_3)).trans hw126_3), ((HB.out.cell (World.block_lt_of_cell? w _ hw126_4)).trans hw126_4), ((HB.out.cell (World.block_lt_of_cell? w _ hw126_5)).trans hw126_5), ((HB.out.cell (World.block_lt_of_cell? w _ hw127_0)).trans hw127_0), ((HB.out.cell (World.block_lt_of_cell? w _ hw127_1)).trans hw127_1), ((HB.out.cell (World.block_lt_of_cell? w _ hw127_2)).trans hw127_2), ((HB.out.cell (World.block_lt_of_cell? w _ hw127_3)).trans hw127_3), ((HB.out.cell (World.block_lt_of_cell? w _ hw127_4)).trans hw127_4), ((HB.out.cell (World.block_lt_of_cell? w _ hw127_5)).trans hw127_5)⟩ (fun hHeld => ?_)
     clear hK K
     refine norm_ (a' := ?_) ?_ ?_
     rotate_left
     · show Act.put _ (some 35) _ = _
       simp only [Act.put, sA_, sB_, sC_, i64_w, i32_w]
       rfl
     refine pure_ (i := 24) (N := some 36) (v := ?_) (a' := ?_) z25_ rfl rfl (any_of HT_.out (by kernel_rfl)) (fun _ _ _ h => h) (Or.inl ⟨by rfl, ?_⟩) ?_ ?_; rotate_left; intro w'; go_simp; with_reducible rfl; rotate_left; simp only [Act.put, sA_, sB_, sC_, i64_w, i32_w]; rfl
     refine pure_ (i := 25) (N := some 37) (v := ?_) (a' := ?_) z26_ rfl rfl (any_of HT_.out (by kernel_rfl)) (fun _ _ _ h => h) (Or.inl ⟨by rfl, ?_⟩) ?_ ?_; rotate_left; intro w'; go_simp; with_reducible rfl; rotate_left; simp only [Act.put, sA_, sB_, sC_, i64_w, i32_w]; rfl
     refine pure_ (i := 26) (N := some 38) (v := ?_) (a' := ?_) z27_ rfl rfl (any_of HT_.out (by kernel_rfl)) (fun _ _ _ h => h) (Or.inl ⟨by rfl, ?_⟩) ?_ ?_; rotate_left; intro w'; go_simp; with_reducible rfl; rotate_left; simp only [Act.put, sA_, sB_, sC_, i64_w, i32_w]; rfl
     refine done_ (done_of HT_.out (by kernel_rfl)) ?_
     try go_wp2
     go_ret
     exact ⟨by first | rfl | (simp [errW_none, errW_some] <;> rfl) | (simp only [← hji8]; first | rfl | (simp [errW_none, errW_some] <;> rfl)) | (simp [*, errW_none, errW_some] <;> rfl), by repeat (first | (with_reducible first | exact HB.out | apply below_alloc | apply pw_below_drewN | apply below_drew1 | refine below_set ?_ GE124.out) | exact HB.out)⟩
   replace c18 := Bool.eq_false_iff.mpr c18
   subst c18
   have H1 : (region_Check.l0 k1 l0 l0 (l0.length : Int) (wrap64 (x7_1 + 1))) = some r := by rw [if_neg (show ¬ (false = true) by decide)] at H; exact H
   clear H
   have H := H1
   clear H1
   have H' := Aside0.mk H
   clear H
   have p123 : 0 ≤ (x7_1 : Int) := of_decide_eq_true (by first | (with_reducible assumption) | assumption)
   have q123 : x7_1 < (l0.length : Int) := of_decide_eq_true (by first | (with_reducible assumption) | assumption)
   obtain ⟨ad123, e123, hx123_0, hx123_1, hx123_2, hx123_3, hx123_4, hx123_5⟩ := at_T41 HR0.out x7_1 p123 q123
   cases e123
   replace hx123_0 := up_ hx123_0 HB.out
   replace hx123_1 := up_ hx123_1 HB.out
   replace hx123_2 := up_ hx123_2 HB.out
   replace hx123_3 := up_ hx123_3 HB.out
   replace hx123_4 := up_ hx123_4 HB.out
   replace hx123_5 := up_ hx123_5 HB.out
   replace p123 := eq_true p123
   replace q123 := eq_true q123
   try go_wp2_with (first | ((with_reducible refine gate_dst (N := 4) rfl ?_); refine box_event ?hg (N := 4) ?hd (cs := #[.int .i64 0, .int .i64 0, .int .i64 0, .int .i64 0, .int .i64 0, .int .i64 0]) (t := 41) ?hr ?_; (case hd => rfl); (case hg => rfl); (case hr => first | (go_simp; done) | (go_simp; rfl)); intro gb124 hg w25 hbox hb; have n0_ := Aside0.mk (below_step (by repeat (first | (with_reducible first | exact HB.out | apply below_alloc | apply pw_below_drewN | apply below_drew1) | exact HB.out)) hb); have n1_ := Aside0.mk (hbox); have n2_ := Aside0.mk ((by rw [hg]; exact (below_size (by repeat (first | (with_reducible first | exact HB.out | apply below_alloc | apply pw_below_drewN | apply below_drew1) | exact HB.out))) : w.heap.size ≤ gb124)); have n3_ := Aside0.mk ((by rw [hg]; exact (below_size (by repeat (first | (with_reducible first | exact HB.out | apply below_alloc | apply pw_below_drewN | apply below_drew1) | exact HB.out))) : w.heap.size ≤ gb124)); clear HB; have HB := n0_; have BK124 := n1_; have GW124 := n2_; have GE124 := n3_; clear n0_ n1_ n2_ n3_; clear hb hbox hg; have hcz26_0 : w25.cell? ⟨gb124, 0, none⟩ = some (.int .i64 0) := (blk_cell BK124.out 0).trans rfl; have hcz26_1 : w25.cell? ⟨gb124, 1, none⟩ = some (.int .i64 0) := (blk_cell BK124.out 1).trans rfl; have hcz26_2 : w25.cell? ⟨gb124, 2, none⟩ = some (.int .i64 0) := (blk_cell BK124.out 2).trans rfl; have hcz26_3 : w25.cell? ⟨gb124, 3, none⟩ = some (.int .i64 0) := (blk_cell BK124.out 3).trans rfl; have hcz26_4 : w25.cell? ⟨gb124, 4, none⟩ = some (.int .i64 0) := (blk_cell BK124.out 4).trans rfl; have hcz26_5 : w25.cell? ⟨gb124, 5, none⟩ = some (.int .i64 0) := (blk_cell BK124.out 5).trans rfl; have hfz26_0 := blk_frozen BK124.out 0; have hfz26_1 := blk_frozen BK124.out 1; have hfz26_2 := blk_frozen BK124.out 2; have hfz26_3 := blk_frozen BK124.out 3; have hfz26_4 := blk_frozen BK124.out 4; have hfz26_5 := blk_frozen BK124.out 5))
   have n0_ : Aside0 (((((((w25.setCell ⟨gb124, 0, none⟩ (.int .i64 ((rd_T41 l0 x7_1).f0))).setCell ⟨gb124, 1, none⟩ (.int .i64 ((rd_T41 l0 x7_1).f1))).setCell ⟨gb124, 2, none⟩ (.int .i64 ((rd_T41 l0 x7_1).f2))).setCell ⟨gb124, 3, none⟩ (.int .i64 ((rd_T41 l0 x7_1).f3))).setCell ⟨gb124, 4, none⟩ (.int .i64 ((rd_T41 l0 x7_1).f4))).setCell ⟨gb124, 5, none⟩ (.int .i64 ((rd_T41 l0 x7_1).f5))).heap[gb124]? = some (.cells #[.int .i64 ((rd_T41 l0 x7_1).f0), .int .i64 ((rd_T41 l0 x7_1).f1), .int .i64 ((rd_T41 l0 x7_1).f2), .int .i64 ((rd_T41 l0 x7_1).f3), .int .i64 ((rd_T41 l0 x7_1).f4), .int .i64 ((rd_T41 l0 x7_1).f5)] 41 (0, 0))) := ⟨by (with_reducible repeat (first | refine blk_drewN ?_ _ | refine blk_drew ?_ | refine blk_alloc ?_ _)); refine blk_put (cs := #[.int .i64 ((rd_T41 l0 x7_1).f0), .int .i64 ((rd_T41 l0 x7_1).f1), .int .i64 ((rd_T41 l0 x7_1).f2), .int .i64 ((rd_T41 l0 x7_1).f3), .int .i64 ((rd_T41 l0 x7_1).f4), .int .i64 0]) ?_ 5 _ rfl; (with_reducible repeat (first | refine blk_drewN ?_ _ | refine blk_drew ?_ | refine blk_alloc ?_ _)); refine blk_put (cs := #[.int .i64 ((rd_T41 l0 x7_1).f0), .int .i64 ((rd_T41 l0 x7_1).f1), .int .i64 ((rd_T41 l0 x7_1).f2), .int .i64 ((rd_T41 l0 x7_1).f3), .int .i64 0, .int .i64 0]) ?_ 4 _ rfl; (with_reducible repeat (first | refine blk_drewN ?_ _ | refine blk_drew ?_ | refine blk_alloc ?_ _)); refine blk_put (cs := #[.int .i64 ((rd_T41 l0 x7_1).f0), .int .i64 ((rd_T41 l0 x7_1).f1), .int .i64 ((rd_T41 l0 x7_1).f2), .int .i64 0, .int .i64 0, .int .i64 0]) ?_ 3 _ rfl; (with_reducible repeat (first | refine blk_drewN ?_ _ | refine blk_drew ?_ | refine blk_alloc ?_ _)); refine blk_put (cs := #[.int .i64 ((rd_T41 l0 x7_1).f0), .int .i64 ((rd_T41 l0 x7_1).f1), .int .i64 0, .int .i64 0, .int .i64 0, .int .i64 0]) ?_ 2 _ rfl; (with_reducible repeat (first | refine blk_drewN ?_ _ | refine blk_drew ?_ | refine blk_alloc ?_ _)); refine blk_put (cs := #[.int .i64 ((rd_T41 l0 x7_1).f0), .int .i64 0, .int .i64 0, .int .i64 0, .int .i64 0, .int .i64 0]) ?_ 1 _ rfl; (with_reducible repeat (first | refine blk_drewN ?_ _ | refine blk_drew ?_ | refine blk_alloc ?_ _)); refine blk_put (cs := #[.int .i64 0, .int .i64 0, .int .i64 0, .int .i64 0, .int .i64 0, .int .i64 0]) ?_ 0 _ rfl; (with_reducible repeat (first | refine blk_drewN ?_ _ | refine blk_drew ?_ | refine blk_alloc ?_ _)); exact BK124.out⟩
   have n1_ : Aside0 (Below w.heap.size w ((((((w25.setCell ⟨gb124, 0, none⟩ (.int .i64 ((rd_T41 l0 x7_1).f0))).setCell ⟨gb124, 1, none⟩ (.int .i64 ((rd_T41 l0 x7_1).f1))).setCell ⟨gb124, 2, none⟩ (.int .i64 ((rd_T41 l0 x7_1).f2))).setCell ⟨gb124, 3, none⟩ (.int .i64 ((rd_T41 l0 x7_1).f3))).setCell ⟨gb124, 4, none⟩ (.int .i64 ((rd_T41 l0 x7_1).f4))).setCell ⟨gb124, 5, none⟩ (.int .i64 ((rd_T41 l0 x7_1).f5)))) := ⟨by repeat (first | (with_reducible first | exact HB.out | apply below_alloc | apply pw_below_drewN | apply below_drew1 | refine below_set ?_ GE124.out) | exact HB.out)⟩
   (try clear BK124)
   (try clear HB)
   generalize ((((((w25.setCell ⟨gb124, 0, none⟩ (.int .i64 ((rd_T41 l0 x7_1).f0))).setCell ⟨gb124, 1, none⟩ (.int .i64 ((rd_T41 l0 x7_1).f1))).setCell ⟨gb124, 2, none⟩ (.int .i64 ((rd_T41 l0 x7_1).f2))).setCell ⟨gb124, 3, none⟩ (.int .i64 ((rd_T41 l0 x7_1).f3))).setCell ⟨gb124, 4, none⟩ (.int .i64 ((rd_T41 l0 x7_1).f4))).setCell ⟨gb124, 5, none⟩ (.int .i64 ((rd_T41 l0 x7_1).f5))) = w27 at n0_ n1_ ⊢
   have BK124 := n0_
   have HB := n1_
   clear n0_ n1_
   have n0_ := Aside0.mk (blk_drew BK124.out)
   have n1_ := Aside0.mk (below_drew1 HB.out)
   clear BK124
   clear HB
   have BK124 := n0_
   have HB := n1_
   clear n0_ n1_
   have p126 : 0 ≤ ((ji8) : Int) := of_decide_eq_true (by first | (with_reducible assumption) | assumption)
   have q126 : (ji8) < (l0.length : Int) := of_decide_eq_true (by first | (with_reducible assumption) | assumption)
   obtain ⟨ad126, e126, hx126_0, hx126_1, hx126_2, hx126_3, hx126_4, hx126_5⟩ := at_T41 HR0.out (ji8) p126 q126
   have hw126_5 := hx126_5
   have hw126_4 := hx126_4
   have hw126_3 := hx126_3
   have hw126_2 := hx126_2
   have hw126_1 := hx126_1
   have hw126_0 := hx126_0
   obtain rfl : ad123 = ad126 := (by injection e126)
   replace hx126_0 := up_ hx126_0 HB.out
   replace hx126_1 := up_ hx126_1 HB.out
   replace hx126_2 := up_ hx126_2 HB.out
   replace hx126_3 := up_ hx126_3 HB.out
   replace hx126_4 := up_ hx126_4 HB.out
   replace hx126_5 := up_ hx126_5 HB.out
   replace p126 := eq_true p126
   replace q126 := eq_true q126
   have p127 : 0 ≤ ((ji8) : Int) := of_decide_eq_true (by first | (with_reducible assumption) | assumption)
   have q127 : (ji8) < (l0.length : Int) := of_decide_eq_true (by first | (with_reducible assumption) | assumption)
   obtain ⟨ad127, e127, hx127_0, hx127_1, hx127_2, hx127_3, hx127_4, hx127_5⟩ := at_T41 HR0.out (ji8) p127 q127
   have hw127_5 := hx127_5
   have hw127_4 := hx127_4
   have hw127_3 := hx127_3
   have hw127_2 := hx127_2
   have hw127_1 := hx127_1
   have hw127_0 := hx127_0
   obtain rfl : ad123 = ad127 := (by injection e127)
   replace hx127_0 := up_ hx127_0 HB.out
   replace hx127_1 := up_ hx127_1 HB.out
   replace hx127_2 := up_ hx127_2 HB.out
   replace hx127_3 := up_ hx127_3 HB.out
   replace hx127_4 := up_ hx127_4 HB.out
   replace hx127_5 := up_ hx127_5 HB.out
   replace p127 := eq_true p127
   replace q127 := eq_true q127
   refine start_ (n := 27) (S := fun w' => w'.cell? ⟨gb124, 0, none⟩ = some (.int .i64 ((rd_T41 l0 x7_1).f0)) ∧ w'.cell? ⟨gb124, 1, none⟩ = some (.int .i64 ((rd_T41 l0 x7_1).f1)) ∧ w'.cell? ⟨gb124, 2, none⟩ = some (.int .i64 ((rd_T41 l0 x7_1).f2)) ∧ w'.cell? ⟨gb124, 3, none⟩ = some (.int .i64 ((rd_T41 l0 x7_1).f3)) ∧ w'.cell? ⟨gb124, 4, none⟩ = some (.int .i64 ((rd_T41 l0 x7_1).f4)) ∧ w'.cell? ⟨gb124, 5, none⟩ = some (.int .i64 ((rd_T41 l0 x7_1).f5)) ∧ w'.cell? (ad123.add (((ji8)).toNat * 6)) = some (.int .i64 ((rd_T41 l0 (ji8)).f0)) ∧ w'.cell? ⟨(ad123.add (((ji8)).toNat * 6)).block, (ad123.add (((ji8)).toNat * 6)).off + 1, none⟩ = some (.int .i64 ((rd_T41 l0 (ji8)).f1)) ∧ w'.cell? ⟨(ad123.add (((ji8)).toNat * 6)).block, (ad123.add (((ji8)).toNat * 6)).off + 2, none⟩ = some (.int .i64 ((rd_T41 l0 (ji8)).f2)) ∧ w'.cell? ⟨(ad123.add (((ji8)).toNat * 6)).block, (ad123.add (((ji8)).toNat * 6)).off + 3, none⟩ = some (.int .i64 ((rd_T41 l0 (ji8)).f3)) ∧ w'.cell? ⟨(ad123.add (((ji8)).toNat * 6)).block, (ad123.add (((ji8)).toNat * 6)).off + 4, none⟩ = some (.int .i64 ((rd_T41 l0 (ji8)).f4)) ∧ w'.cell? ⟨(ad123.add (((ji8)).toNat * 6)).block, (ad123.add (((ji8)).toNat * 6)).off + 5, none⟩ = some (.int .i64 ((rd_T41 l0 (ji8)).f5)) ∧ w'.cell? (ad123.add (((ji8)).toNat * 6)) = some (.int .i64 ((rd_T41 l0 (ji8)).f0)) ∧ w'.cell? ⟨(ad123.add (((ji8)).toNat * 6)).block, (ad123.add (((ji8)).toNat * 6)).off + 1, none⟩ = some (.int .i64 ((rd_T41 l0 (ji8)).f1)) ∧ w'.cell? ⟨(ad123.add (((ji8)).toNat * 6)).block, (ad123.add (((ji8)).toNat * 6)).off + 2, none⟩ = some (.int .i64 ((rd_T41 l0 (ji8)).f2)) ∧ w'.cell? ⟨(ad123.add (((ji8)).toNat * 6)).block, (ad123.add (((ji8)).toNat * 6)).off + 3, none⟩ = some (.int .i64 ((rd_T41 l0 (ji8)).f3)) ∧ w'.cell? ⟨(ad123.add (((ji8)).toNat * 6)).block, (ad123.add (((ji8)).toNat * 6)).off + 4, none⟩ = some (.int .i64 ((rd_T41 l0 (ji8)).f4)) ∧ w'.cell? ⟨(ad123.add (((ji8)).toNat * 6)).block, (ad123.add (((ji8)).toNat * 6)).off + 5, none⟩ = some (.int .i64 ((rd_T41 l0 (ji8)).f5))) (ds := []) z0_ (by kernel_rfl) rfl rfl ⟨(blk_cell BK124.out 0).trans rfl, (blk_cell BK124.out 1).trans rfl, (blk_cell BK124.out 2).trans rfl, (blk_cell BK124.out 3).trans rfl, (blk_cell BK124.out 4).trans rfl, (blk_cell BK124.out 5).trans rfl, ((HB.out.cell (World.block_lt_of_cell? w _ hw126_0)).trans hw126_0), ((HB.out.cell (World.block_lt_of_cell? w _ hw126_1)).trans hw126_1), ((HB.out.cell (World.block_lt_of_cell? w _ hw126_2)).trans hw126_2), ((HB.out.cell (World.block_lt_of_cell? w _ hw126_3)).trans hw126_3), ((HB.out.cell (World.block_lt_of_cell? w _ hw126_4)).trans hw126_4), ((HB.out.cell (World.block_lt_of_cell? w _ hw126_5)).trans hw126_5), ((HB.out.cell (World.block_lt_of_cell? w _ hw127_0)).trans hw127_0), ((HB.out.cell (World.block_lt_of_cell? w _ hw127_1)).trans hw127_1), ((HB.out.cell (World.block_lt_of_cell? w _ hw127_2)).trans hw127_2), ((HB.out.cell (World.block_lt_of_cell? w _ hw127_3)).trans hw127_3), ((HB.out.cell (World.block_lt_of_cell? w _ hw127_4)).trans hw127_4), ((HB.out.cell (World.block_lt_of_cell? w _ hw127_5)).trans hw127_5)⟩ (fun hHeld => ?_); refine with_tabW region_Check.tab4 region_Check.bits4 (fun HT_ HW_ => ?_)
   generalize w27.drew = w28 at BK124 HB hx126_0 hx126_1 hx126_2 hx126_3 hx126_4 hx126_5 hx127_0 hx127_1 hx127_2 hx127_3 hx127_4 hx127_5 hHeld ⊢
   refine take_ (i := 0) (N := some 12) (v := ?_) (a' := ?_) z1_ rfl rfl (take_ofW HT_.out HW_.out (by kernel_rfl)) (fun _ _ _ h => h) (Or.inl ⟨by rfl, ?_⟩) hHeld ?_ ?_; rotate_left; rintro w' ⟨s0, s1, s2, s3, s4, s5, s6, s7, s8, s9, s10, s11, s12, s13, s14, s15, s16, s17⟩; go_simp; with_reducible rfl; rotate_left; simp only [Act.put, sA_, sB_, sC_, i64_w, i32_w]; rfl
   refine one_ (i := 1) (N := some 13) z2_ rfl rfl (one_of HT_.out (by kernel_rfl)) (by decide) (fun K hK => ?_)
   refine goes_ Try.func77 (by kernel_rfl) rfl #[.agg #[.int .i64 ((rd_T41 l0 x7_1).f0), .int .i64 ((rd_T41 l0 x7_1).f1), .int .i64 ((rd_T41 l0 x7_1).f2), .int .i64 ((rd_T41 l0 x7_1).f3), .int .i64 ((rd_T41 l0 x7_1).f4), .int .i64 ((rd_T41 l0 x7_1).f5)]] (by rfl) rfl rfl (by (try simp only [List.map_toArray, List.map_cons, List.map_nil]); first | done | rfl | (simp only [List.length_drop, List.length_take]; rfl)) ?_
   with_reducible refine (region_may.calls k1 ((rd_T41 l0 x7_1).f0) ((rd_T41 l0 x7_1).f1) ((rd_T41 l0 x7_1).f2) ((rd_T41 l0 x7_1).f3) ((rd_T41 l0 x7_1).f4) ((rd_T41 l0 x7_1).f5) true _ A5.out).mono ?_
   rintro e w29 ⟨rfl, hb⟩
   refine ⟨_, rfl, ?_⟩
   have n0_ := Aside0.mk (blk_below (g := gb124) (o := .cells #[.int .i64 ((rd_T41 l0 x7_1).f0), .int .i64 ((rd_T41 l0 x7_1).f1), .int .i64 ((rd_T41 l0 x7_1).f2), .int .i64 ((rd_T41 l0 x7_1).f3), .int .i64 ((rd_T41 l0 x7_1).f4), .int .i64 ((rd_T41 l0 x7_1).f5)] 41 (0, 0)) (by (with_reducible repeat (first | refine blk_drewN ?_ _ | refine blk_drew ?_ | refine blk_alloc ?_ _)); exact BK124.out) hb)
   have n1_ := Aside0.mk (below_step (by repeat (first | (with_reducible first | exact HB.out | apply below_alloc | apply pw_below_drewN | apply below_drew1 | refine below_set ?_ GE124.out) | exact HB.out)) hb)
   clear BK124
   clear HB
   have BK124 := n0_
   have HB := n1_
   clear n0_ n1_
   (try clear hb)
   (try clear hb2)
   (try clear hk)
   (try clear hi)
   refine hK.out _ _ ⟨(blk_cell BK124.out 0).trans rfl, (blk_cell BK124.out 1).trans rfl, (blk_cell BK124.out 2).trans rfl, (blk_cell BK124.out 3).trans rfl, (blk_cell BK124.out 4).trans rfl, (blk_cell BK124.out 5).trans rfl, ((HB.out.cell (World.block_lt_of_cell? w _ hw126_0)).trans hw126_0), ((HB.out.cell (World.block_lt_of_cell? w _ hw126_1)).trans hw126_1), ((HB.out.cell (World.block_lt_of_cell? w _ hw126_2)).trans hw126_2), ((HB.out.cell (World.block_lt_of_cell? w _ hw126_3)).trans hw126_3), ((HB.out.cell (World.block_lt_of_cell? w _ hw126_4)).trans hw126_4), ((HB.out.cell (World.block_lt_of_cell? w _ hw126_5)).trans hw126_5), ((HB.out.cell (World.block_lt_of_cell? w _ hw127_0)).trans hw127_0), ((HB.out.cell (World.block_lt_of_cell? w _ hw127_1)).trans hw127_1), ((HB.out.cell (World.block_lt_of_cell? w _ hw127_2)).trans hw127_2), ((HB.out.cell (World.block_lt_of_cell? w _ hw127_3)).trans hw127_3), ((HB.out.cell (World.block_lt_of_cell? w _ hw127_4)).trans hw127_4), ((HB.out.cell (World.block_lt_of_cell? w _ hw127_5)).trans hw127_5)⟩ (fun hHeld => ?_)
   clear hK K
   refine norm_ (a' := ?_) ?_ ?_
   rotate_left
   · show Act.put _ (some 13) _ = _
     simp only [Act.put, sA_, sB_, sC_, i64_w, i32_w]
     rfl
   refine pure_ (i := 2) (N := some 14) (v := ?_) (a' := ?_) z3_ rfl rfl (any_of HT_.out (by kernel_rfl)) (fun _ _ _ h => h) (Or.inl ⟨by rfl, ?_⟩) ?_ ?_; rotate_left; intro w'; go_simp; with_reducible rfl; rotate_left; simp only [Act.put, sA_, sB_, sC_, i64_w, i32_w]; rfl
   refine pure_ (i := 3) (N := some 15) (v := ?_) (a' := ?_) z4_ rfl rfl (any_of HT_.out (by kernel_rfl)) (fun _ _ _ h => h) (Or.inl ⟨by rfl, ?_⟩) ?_ ?_; rotate_left; intro w'; go_simp; with_reducible rfl; rotate_left; simp only [Act.put, sA_, sB_, sC_, i64_w, i32_w]; rfl
   refine pure_ (i := 4) (N := some 16) (v := ?_) (a' := ?_) z5_ rfl rfl (any_of HT_.out (by kernel_rfl)) (fun _ _ _ h => h) (Or.inl ⟨by rfl, ?_⟩) ?_ ?_; rotate_left; intro w'; go_simp; with_reducible rfl; rotate_left; simp only [Act.put, sA_, sB_, sC_, i64_w, i32_w]; rfl
   refine pure_ (i := 5) (N := some 17) (v := ?_) (a' := ?_) z6_ rfl rfl (any_of HT_.out (by kernel_rfl)) (fun _ _ _ h => h) (Or.inl ⟨by rfl, ?_⟩) ?_ ?_; rotate_left; intro w'; go_simp; with_reducible rfl; rotate_left; simp only [Act.put, sA_, sB_, sC_, i64_w, i32_w]; rfl
   refine pure_ (i := 6) (N := some 18) (v := ?_) (a' := ?_) z7_ rfl rfl (any_of HT_.out (by kernel_rfl)) (fun _ _ _ h => h) (Or.inl ⟨by rfl, ?_⟩) ?_ ?_; rotate_left; intro w'; go_simp; with_reducible rfl; rotate_left; simp only [Act.put, sA_, sB_, sC_, i64_w, i32_w]; rfl
   refine pure_ (i := 7) (N := some 19) (v := ?_) (a' := ?_) z8_ rfl rfl (any_of HT_.out (by kernel_rfl)) (fun _ _ _ h => h) (Or.inl ⟨by rfl, ?_⟩) ?_ ?_; rotate_left; intro w'; go_simp; with_reducible rfl; rotate_left; simp only [Act.put, sA_, sB_, sC_, i64_w, i32_w]; rfl
   refine pure_ (i := 9) (N := some 21) (v := ?_) (a' := ?_) z28_ rfl rfl (any_of HT_.out (by kernel_rfl)) (fun _ _ _ h => h) (Or.inl ⟨by rfl, ?_⟩) ?_ ?_; rotate_left; intro w'; go_simp; with_reducible rfl; rotate_left; simp only [Act.put, sA_, sB_, sC_, i64_w, i32_w]; rfl
   refine pure_ (i := 10) (N := some 22) (v := ?_) (a' := ?_) z29_ rfl rfl (any_of HT_.out (by kernel_rfl)) (fun _ _ _ h => h) (Or.inl ⟨by rfl, ?_⟩) ?_ ?_; rotate_left; intro w'; go_simp; with_reducible rfl; rotate_left; simp only [Act.put, sA_, sB_, sC_, i64_w, i32_w]; rfl
   refine pure_ (i := 11) (N := some 23) (v := ?_) (a' := ?_) z30_ rfl rfl (any_of HT_.out (by kernel_rfl)) (fun _ _ _ h => h) (Or.inl ⟨by rfl, ?_⟩) ?_ ?_; rotate_left; intro w'; go_simp; with_reducible rfl; rotate_left; simp only [Act.put, sA_, sB_, sC_, i64_w, i32_w]; rfl
   refine pure_ (i := 12) (N := some 24) (v := ?_) (a' := ?_) z31_ rfl rfl (any_of HT_.out (by kernel_rfl)) (fun _ _ _ h => h) (Or.inl ⟨by rfl, ?_⟩) ?_ ?_; rotate_left; intro w'; go_simp; with_reducible rfl; rotate_left; simp only [Act.put, sA_, sB_, sC_, i64_w, i32_w]; rfl
   refine pure_ (i := 13) (N := some 25) (v := ?_) (a' := ?_) z32_ rfl rfl (any_of HT_.out (by kernel_rfl)) (fun _ _ _ h => h) (Or.inl ⟨by rfl, ?_⟩) ?_ ?_; rotate_left; intro w'; go_simp; with_reducible rfl; rotate_left; simp only [Act.put, sA_, sB_, sC_, i64_w, i32_w]; rfl
   refine take_ (i := 8) (N := some 20) (v := ?_) (a' := ?_) z14_ rfl rfl (take_ofW HT_.out HW_.out (by kernel_rfl)) (fun _ _ _ h => h) (Or.inl ⟨by rfl, ?_⟩) hHeld ?_ ?_; rotate_left; rintro w' ⟨s0, s1, s2, s3, s4, s5, s6, s7, s8, s9, s10, s11, s12, s13, s14, s15, s16, s17⟩; go_simp; with_reducible rfl; rotate_left; simp only [Act.put, sA_, sB_, sC_, i64_w, i32_w]; rfl
   refine take_ (i := 14) (N := some 26) (v := ?_) (a' := ?_) z15_ rfl rfl (take_ofW HT_.out HW_.out (by kernel_rfl)) (fun _ _ _ h => h) (Or.inl ⟨by rfl, ?_⟩) hHeld ?_ ?_; rotate_left; rintro w' ⟨s0, s1, s2, s3, s4, s5, s6, s7, s8, s9, s10, s11, s12, s13, s14, s15, s16, s17⟩; go_simp; with_reducible rfl; rotate_left; simp only [Act.put, sA_, sB_, sC_, i64_w, i32_w]; rfl
   refine pure_ (i := 15) (N := some 27) (v := ?_) (a' := ?_) z16_ rfl rfl (any_of HT_.out (by kernel_rfl)) (fun _ _ _ h => h) (Or.inl ⟨by rfl, ?_⟩) ?_ ?_; rotate_left; intro w'; go_simp; with_reducible rfl; rotate_left; simp only [Act.put, sA_, sB_, sC_, i64_w, i32_w]; rfl
   refine pure_ (i := 16) (N := some 28) (v := ?_) (a' := ?_) z17_ rfl rfl (any_of HT_.out (by kernel_rfl)) (fun _ _ _ h => h) (Or.inl ⟨by rfl, ?_⟩) ?_ ?_; rotate_left; intro w'; go_simp; with_reducible rfl; rotate_left; simp only [Act.put, sA_, sB_, sC_, i64_w, i32_w]; rfl
   refine pure_ (i := 17) (N := some 29) (v := ?_) (a' := ?_) z18_ rfl rfl (any_of HT_.out (by kernel_rfl)) (fun _ _ _ h => h) (Or.inl ⟨by rfl, ?_⟩) ?_ ?_; rotate_left; intro w'; go_simp; with_reducible rfl; rotate_left; simp only [Act.put, sA_, sB_, sC_, i64_w, i32_w]; rfl
   refine pure_ (i := 18) (N := some 30) (v := ?_) (a' := ?_) z19_ rfl rfl (any_of HT_.out (by kernel_rfl)) (fun _ _ _ h => h) (Or.inl ⟨by rfl, ?_⟩) ?_ ?_; rotate_left; intro w'; go_simp; with_reducible rfl; rotate_left; simp only [Act.put, sA_, sB_, sC_, i64_w, i32_w]; rfl
   refine pure_ (i := 19) (N := some 31) (v := ?_) (a' := ?_) z20_ rfl rfl (any_of HT_.out (by kernel_rfl)) (fun _ _ _ h => h) (Or.inl ⟨by rfl, ?_⟩) ?_ ?_; rotate_left; intro w'; go_simp; with_reducible rfl; rotate_left; simp only [Act.put, sA_, sB_, sC_, i64_w, i32_w]; rfl
   refine pure_ (i := 20) (N := some 32) (v := ?_) (a' := ?_) z21_ rfl rfl (any_of HT_.out (by kernel_rfl)) (fun _ _ _ h => h) (Or.inl ⟨by rfl, ?_⟩) ?_ ?_; rotate_left; intro w'; go_simp; with_reducible rfl; rotate_left; simp only [Act.put, sA_, sB_, sC_, i64_w, i32_w]; rfl
   refine take_ (i := 21) (N := some 33) (v := ?_) (a' := ?_) z22_ rfl rfl (take_ofW HT_.out HW_.out (by kernel_rfl)) (fun _ _ _ h => h) (Or.inl ⟨by rfl, ?_⟩) hHeld ?_ ?_; rotate_left; rintro w' ⟨s0, s1, s2, s3, s4, s5, s6, s7, s8, s9, s10, s11, s12, s13, s14, s15, s16, s17⟩; go_simp; with_reducible rfl; rotate_left; simp only [Act.put, sA_, sB_, sC_, i64_w, i32_w]; rfl
   refine take_ (i := 22) (N := some 34) (v := ?_) (a' := ?_) z23_ rfl rfl (take_ofW HT_.out HW_.out (by kernel_rfl)) (fun _ _ _ h => h) (Or.inl ⟨by rfl, ?_⟩) hHeld ?_ ?_; rotate_left; rintro w' ⟨s0, s1, s2, s3, s4, s5, s6, s7, s8, s9, s10, s11, s12, s13, s14, s15, s16, s17⟩; go_simp; with_reducible rfl; rotate_left; simp only [Act.put, sA_, sB_, sC_, i64_w, i32_w]; rfl
   refine one_ (i := 23) (N := some 35) z24_ rfl rfl (one_of HT_.out (by kernel_rfl)) (by decide) (fun K hK => ?_)
   refine goes_ Try.func79 (by kernel_rfl) rfl #[.agg #[.int .i64 ((rd_T41 l0 (ji8)).f0), .int .i64 ((rd_T41 l0 (ji8)).f1), .int .i64 ((rd_T41 l0 (ji8)).f2), .int .i64 ((rd_T41 l0 (ji8)).f3), .int .i64 ((rd_T41 l0 (ji8)).f4), .int .i64 ((rd_T41 l0 (ji8)).f5)], .agg #[.int .i64 ((rd_T41 l0 x7_1).f0), .int .i64 ((rd_T41 l0 x7_1).f1), .int .i64 ((rd_T41 l0 x7_1).f2), .int .i64 ((rd_T41 l0 x7_1).f3), .int .i64 ((rd_T41 l0 x7_1).f4), .int .i64 ((rd_T41 l0 x7_1).f5)]] (by rfl) rfl rfl (by (try simp only [List.map_toArray, List.map_cons, List.map_nil]); first | done | (simp only [hji8]; rfl) | rfl | (simp only [List.length_drop, List.length_take]; rfl)) ?_
   with_reducible refine (region_one.calls ((rd_T41 l0 (ji8)).f0) ((rd_T41 l0 (ji8)).f1) ((rd_T41 l0 (ji8)).f2) ((rd_T41 l0 (ji8)).f3) ((rd_T41 l0 (ji8)).f4) ((rd_T41 l0 (ji8)).f5) ((rd_T41 l0 x7_1).f0) ((rd_T41 l0 x7_1).f1) ((rd_T41 l0 x7_1).f2) ((rd_T41 l0 x7_1).f3) ((rd_T41 l0 x7_1).f4) ((rd_T41 l0 x7_1).f5) false _ A17.out).mono ?_
   rintro e w30 ⟨rfl, hb⟩
   refine ⟨_, rfl, ?_⟩
   have n0_ := Aside0.mk (blk_below (g := gb124) (o := .cells #[.int .i64 ((rd_T41 l0 x7_1).f0), .int .i64 ((rd_T41 l0 x7_1).f1), .int .i64 ((rd_T41 l0 x7_1).f2), .int .i64 ((rd_T41 l0 x7_1).f3), .int .i64 ((rd_T41 l0 x7_1).f4), .int .i64 ((rd_T41 l0 x7_1).f5)] 41 (0, 0)) (by (with_reducible repeat (first | refine blk_drewN ?_ _ | refine blk_drew ?_ | refine blk_alloc ?_ _)); exact BK124.out) hb)
   have n1_ := Aside0.mk (below_step (by repeat (first | (with_reducible first | exact HB.out | apply below_alloc | apply pw_below_drewN | apply below_drew1 | refine below_set ?_ GE124.out) | exact HB.out)) hb)
   clear BK124
   clear HB
   have BK124 := n0_
   have HB := n1_
   clear n0_ n1_
   (try clear hb)
   (try clear hb2)
   (try clear hk)
   (try clear hi)
   refine hK.out _ _ ⟨(blk_cell BK124.out 0).trans rfl, (blk_cell BK124.out 1).trans rfl, (blk_cell BK124.out 2).trans rfl, (blk_cell BK124.out 3).trans rfl, (blk_cell BK124.out 4).trans rfl, (blk_cell BK124.out 5).trans rfl, ((HB.out.cell (World.block_lt_of_cell? w _ hw126_0)).trans hw126_0), ((HB.out.cell (World.block_lt_of_cell? w _ hw126_1)).trans hw126_1), ((HB.out.cell (World.block_lt_of_cell? w _ hw126_2)).trans hw126_2), ((HB.out.cell (World.block_lt_of_cell? w _ hw126_3)).trans hw126_3), ((HB.out.cell (World.block_lt_of_cell? w _ hw126_4)).trans hw126_4), ((HB.out.cell (World.block_lt_of_cell? w _ hw126_5)).trans hw126_5), ((HB.out.cell (World.block_lt_of_cell? w _ hw127_0)).trans hw127_0), ((HB.out.cell (World.block_lt_of_cell? w _ hw127_1)).trans hw127_1), ((HB.out.cell (World.block_lt_of_cell? w _ hw127_2)).trans hw127_2), ((HB.out.cell (World.block_lt_of_cell? w _ hw127_3)).trans hw127_3), ((HB.out.cell (World.block_lt_of_cell? w _ hw127_4)).trans hw127_4), ((HB.out.cell (World.block_lt_of_cell? w _ hw127_5)).trans hw127_5)⟩ (fun hHeld => ?_)
   clear hK K
   refine norm_ (a' := ?_) ?_ ?_
   rotate_left
   · show Act.put _ (some 35) _ = _
     simp only [Act.put, sA_, sB_, sC_, i64_w, i32_w]
     rfl
   refine pure_ (i := 24) (N := some 36) (v := ?_) (a' := ?_) z25_ rfl rfl (any_of HT_.out (by kernel_rfl)) (fun _ _ _ h => h) (Or.inl ⟨by rfl, ?_⟩) ?_ ?_; rotate_left; intro w'; go_simp; with_reducible rfl; rotate_left; simp only [Act.put, sA_, sB_, sC_, i64_w, i32_w]; rfl
   refine pure_ (i := 25) (N := some 37) (v := ?_) (a' := ?_) z26_ rfl rfl (any_of HT_.out (by kernel_rfl)) (fun _ _ _ h => h) (Or.inl ⟨by rfl, ?_⟩) ?_ ?_; rotate_left; intro w'; go_simp; with_reducible rfl; rotate_left; simp only [Act.put, sA_, sB_, sC_, i64_w, i32_w]; rfl
   refine pure_ (i := 26) (N := some 38) (v := ?_) (a' := ?_) z27_ rfl rfl (any_of HT_.out (by kernel_rfl)) (fun _ _ _ h => h) (Or.inl ⟨by rfl, ?_⟩) ?_ ?_; rotate_left; intro w'; go_simp; with_reducible rfl; rotate_left; simp only [Act.put, sA_, sB_, sC_, i64_w, i32_w]; rfl
   refine done_ (done_of HT_.out (by kernel_rfl)) ?_
   try go_wp2
   go_roundg k1
   case measure => have := HK1.out; omega
   case rel => exact ⟨(wrap64 (x7_1 + 1)), (by first | rfl | (simp; done) | (simp [*]; done)), H', ⟨by have := HK1.out; omega⟩, ⟨by repeat (first | (with_reducible first | exact HB.out | apply below_alloc | apply pw_below_drewN | apply below_drew1 | refine below_set ?_ GE124.out) | exact HB.out)⟩⟩

end Go.Proofs.Ytafmeagfockdfaa.Rg
