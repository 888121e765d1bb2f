-- Written by prn.py, a program of this session over the kit's printer. Not trusted: Lean checks it.
import Derived.Test.YtafmeagfockdfaaRg0
import Derived.Test.YtafmeagfockdfaaRg7
import Derived.Test.YtafmeagfockdfaaRg8
import Derived.Test.YtafmeagfockdfaaRg9
import Derived.Test.YtafmeagfockdfaaRg10
import Derived.Test.YtafmeagfockdfaaSq
namespace Go.Proofs.Ytafmeagfockdfaa.Rg
open Go.Proofs.Ytafmeagfockdfaa.Sq
open Go.RowKit Go.Proofs.YtafmeagfockdfaaW.PrintWords Go.Proofs.YtafmeagfockdfaaW.PrintLast Go.Proofs.YtafmeagfockdfaaW.PrintMore
attribute [local go_sem] max2_int min2_int max_two min_two max_three min_three max_four min_four   -- for this text's walks alone
set_option linter.unusedVariables false
set_option linter.unusedSimpArgs false

/-! ### flyleafref15_Add: function 86 -/
mutual
def flyleafref15_Add.l0 : Nat → List (S87) → Int → Int → Int → Int → Int → Int → Int → Option ((List (S41)) × Int)
  | 0, _, _, _, _, _, _, _, _ => none
  | k + 1, x7, x8, x178000, x178001, x178002, x178003, x178004, x178005 => if x8 < x178001 then (if 0 ≤ x8 then (if x8 < (x7.length : Int) then (if (rd_T87 x7 x8).f1 = true then (some (([] : List (S41)), 13)) else (flyleafref15_Add.l0 k x7 (wrap64 (x8 + 1)) x178000 x178001 x178002 x178003 x178004 x178005)) else (none)) else (none)) else ((flyleafref15_Spread.f k (([(⟨x178000, x178001, x178002, x178003, x178004, x178005⟩ : S41)] : List (S41)))).bind fun t186 => (flyleafref15_Add.l1 k x7 t186 x178000 x178000 x178001 x178002 x178003 x178004 x178005))
def flyleafref15_Add.l1 : Nat → List (S87) → List (S87) → Int → Int → Int → Int → Int → Int → Int → Option ((List (S41)) × Int)
  | 0, _, _, _, _, _, _, _, _, _ => none
  | k + 1, x7, x9, x10, x178000, x178001, x178002, x178003, x178004, x178005 => if x10 < x178001 then (if 0 ≤ x10 then (if x10 < (x9.length : Int) then (if x10 < (x7.length : Int) then (flyleafref15_Add.l1 k (x7.set (x10 : Int).toNat (⟨(⟨(rd_T87 x9 x10).f0.f0, (rd_T87 x9 x10).f0.f1, (rd_T87 x9 x10).f0.f2, (rd_T87 x9 x10).f0.f3, (rd_T87 x9 x10).f0.f4, (rd_T87 x9 x10).f0.f5⟩ : S41), (rd_T87 x9 x10).f1⟩ : S87)) x9 (wrap64 (x10 + 1)) x178000 x178001 x178002 x178003 x178004 x178005) else (none)) else (none)) else (none)) else ((flyleafref15_Row.f k x7).bind fun t191 => (some (t191, 0)))
end
def flyleafref15_Add.f (k : Nat) (l0 : List (S41)) (a1_0 : Int) (a1_1 : Int) (a1_2 : Int) (a1_3 : Int) (a1_4 : Int) (a1_5 : Int) : Option ((List (S41)) × Int) := (flyleafref15_May.f k a1_0 a1_1 a1_2 a1_3 a1_4 a1_5).bind fun t178 => (if t178 = true then ((flyleafref15_Spread.f k l0).bind fun t179 => (flyleafref15_Add.l0 k t179 a1_0 a1_0 a1_1 a1_2 a1_3 a1_4 a1_5)) else (some (([] : List (S41)), 1)))
theorem flyleafref15_Add.mono_l : ∀ k, (∀ y0 y1 y2 y3 y4 y5 y6 y7, LeO (flyleafref15_Add.l0 k y0 y1 y2 y3 y4 y5 y6 y7) (flyleafref15_Add.l0 (k + 1) y0 y1 y2 y3 y4 y5 y6 y7)) ∧ (∀ y0 y1 y2 y3 y4 y5 y6 y7 y8, LeO (flyleafref15_Add.l1 k y0 y1 y2 y3 y4 y5 y6 y7 y8) (flyleafref15_Add.l1 (k + 1) y0 y1 y2 y3 y4 y5 y6 y7 y8))
  | 0 => ⟨fun _ _ _ _ _ _ _ _ r h => by simp [flyleafref15_Add.l0] at h, fun _ _ _ _ _ _ _ _ _ r h => by simp [flyleafref15_Add.l1] at h⟩
  | k + 1 => by
    obtain ⟨ih0, ih1⟩ := flyleafref15_Add.mono_l k
    refine ⟨?_, ?_⟩
    · intro y0 y1 y2 y3 y4 y5 y6 y7
      unfold flyleafref15_Add.l0
      repeat' first
      | (with_reducible exact ih0 _ _ _ _ _ _ _ _)
      | (with_reducible exact ih1 _ _ _ _ _ _ _ _ _)
      | (with_reducible exact flyleafref15_May.mono _ _ _ _ _ _ _)
      | (with_reducible exact flyleafref15_Row.mono _ _)
      | (with_reducible exact flyleafref15_Spread.mono _ _)
      | (with_reducible exact LeO.refl _)
      | (with_reducible exact LeO.none _)
      | (with_reducible refine LeO.ite ?_ ?_)
      | (with_reducible refine LeO.bind ?_ (fun _ => ?_))
      | exact ih0 _ _ _ _ _ _ _ _
      | exact ih1 _ _ _ _ _ _ _ _ _
      | exact flyleafref15_May.mono _ _ _ _ _ _ _
      | exact flyleafref15_Row.mono _ _
      | exact flyleafref15_Spread.mono _ _
      | exact LeO.none _
      | refine LeO.ite ?_ ?_
      | refine LeO.bind ?_ (fun _ => ?_)
    · intro y0 y1 y2 y3 y4 y5 y6 y7 y8
      unfold flyleafref15_Add.l1
      repeat' first
      | (with_reducible exact ih0 _ _ _ _ _ _ _ _)
      | (with_reducible exact ih1 _ _ _ _ _ _ _ _ _)
      | (with_reducible exact flyleafref15_May.mono _ _ _ _ _ _ _)
      | (with_reducible exact flyleafref15_Row.mono _ _)
      | (with_reducible exact flyleafref15_Spread.mono _ _)
      | (with_reducible exact LeO.refl _)
      | (with_reducible exact LeO.none _)
      | (with_reducible refine LeO.ite ?_ ?_)
      | (with_reducible refine LeO.bind ?_ (fun _ => ?_))
      | exact ih0 _ _ _ _ _ _ _ _
      | exact ih1 _ _ _ _ _ _ _ _ _
      | exact flyleafref15_May.mono _ _ _ _ _ _ _
      | exact flyleafref15_Row.mono _ _
      | exact flyleafref15_Spread.mono _ _
      | exact LeO.none _
      | refine LeO.ite ?_ ?_
      | refine LeO.bind ?_ (fun _ => ?_)
theorem flyleafref15_Add.mono : ∀ a0 a1 a2 a3 a4 a5 a6 k, LeO (flyleafref15_Add.f k a0 a1 a2 a3 a4 a5 a6) (flyleafref15_Add.f (k + 1) a0 a1 a2 a3 a4 a5 a6) := by
  intro a0 a1 a2 a3 a4 a5 a6 k
  obtain ⟨ih0, ih1⟩ := flyleafref15_Add.mono_l k
  unfold flyleafref15_Add.f
  repeat' first
      | (with_reducible exact ih0 _ _ _ _ _ _ _ _)
      | (with_reducible exact ih1 _ _ _ _ _ _ _ _ _)
      | (with_reducible exact flyleafref15_May.mono _ _ _ _ _ _ _)
      | (with_reducible exact flyleafref15_Row.mono _ _)
      | (with_reducible exact flyleafref15_Spread.mono _ _)
      | (with_reducible exact LeO.refl _)
      | (with_reducible exact LeO.none _)
      | (with_reducible refine LeO.ite ?_ ?_)
      | (with_reducible refine LeO.bind ?_ (fun _ => ?_))
      | exact ih0 _ _ _ _ _ _ _ _
      | exact ih1 _ _ _ _ _ _ _ _ _
      | exact flyleafref15_May.mono _ _ _ _ _ _ _
      | exact flyleafref15_Row.mono _ _
      | exact flyleafref15_Spread.mono _ _
      | exact LeO.none _
      | refine LeO.ite ?_ ?_
      | refine LeO.bind ?_ (fun _ => ?_)
set_option maxHeartbeats 8000000 in
set_option maxRecDepth 100000 in
theorem flyleafref15_Add.calls (k : Nat) (A0 : Option Addr) (c0 : Nat) (l0 : List (S41)) (a1_0 : Int) (a1_1 : Int) (a1_2 : Int) (a1_3 : Int) (a1_4 : Int) (a1_5 : Int) (r1 : List (S41)) (r2 : Int) (w : World) (hr0 : Kd.C k41 w A0 l0.length l0) (hc0 : l0.length ≤ c0) (h : flyleafref15_Add.f k l0 a1_0 a1_1 a1_2 a1_3 a1_4 a1_5 = some (r1, r2)) :
    Calls Try.prog 86 #[.slice A0 l0.length c0, .agg #[.int .i64 a1_0, .int .i64 a1_1, .int .i64 a1_2, .int .i64 a1_3, .int .i64 a1_4, .int .i64 a1_5]] w fun e w' => ∃ v0_ : Value, e = .returned (.tuple #[v0_, .int .i64 r2]) ∧ Kd.R k41 41 w' w.heap.size (fun _ => True) v0_ r1 ∧ Below w.heap.size w w' := by
 have hu41 := Try.underlying41
 have hu87 := Try.underlying87
 have HR0 := Aside0.mk hr0
 have HC0 := Aside0.mk hc0
 clear hr0 hc0
 have HB := Aside0.mk (Below.refl w.heap.size w)
 have H : ((flyleafref15_May.f k a1_0 a1_1 a1_2 a1_3 a1_4 a1_5).bind fun t178 => (if t178 = true then ((flyleafref15_Spread.f k l0).bind fun t179 => (flyleafref15_Add.l0 k t179 a1_0 a1_0 a1_1 a1_2 a1_3 a1_4 a1_5)) else (some (([] : List (S41)), 1)))) = some (r1, r2) := h
 clear h
 replace H := Option.bind_eq_some_iff.mp H
 obtain ⟨t178, A30, H⟩ := H
 replace H : (if t178 = true then ((flyleafref15_Spread.f k l0).bind fun t179 => (flyleafref15_Add.l0 k t179 a1_0 a1_0 a1_1 a1_2 a1_3 a1_4 a1_5)) else (some (([] : List (S41)), 1))) = some (r1, r2) := H
 have A3 := Aside0.mk A30
 clear A30
 by_cases c4 : t178 = true
 rotate_left
 · replace c4 := Bool.eq_false_iff.mpr c4
   subst c4
   have H1 : (some (([] : List (S41)), 1)) = some (r1, r2) := by rw [if_neg (show ¬ (false = true) by decide)] at H; exact H
   clear H
   have H := H1
   clear H1
   simp only [Option.some.injEq, Prod.mk.injEq] at H
   obtain ⟨rfl, rfl⟩ := H
   go_enter Try.func86, Try.ntmps86
   go_wp2_with (first | ((with_reducible refine gate_dst (N := 3) rfl ?_); refine box_event ?hg (N := 3) ?hd (cs := #[.int .i64 a1_0, .int .i64 a1_1, .int .i64 a1_2, .int .i64 a1_3, .int .i64 a1_4, .int .i64 a1_5]) (t := 41) ?hr ?_; (case hd => rfl); (case hg => rfl); (case hr => first | (go_simp; done) | (go_simp; rfl)); intro gb177 hg w40 hbox hb; have n0_ := Aside0.mk (below_step (by repeat (first | (with_reducible first | exact HB.out | apply below_alloc | apply pw_below_drewN | apply below_drew1) | exact HB.out)) hb); have n1_ := Aside0.mk (hbox); have n2_ := Aside0.mk ((by rw [hg]; exact (below_size (by repeat (first | (with_reducible first | exact HB.out | apply below_alloc | apply pw_below_drewN | apply below_drew1) | exact HB.out))) : w.heap.size ≤ gb177)); have n3_ := Aside0.mk ((by rw [hg]; exact (below_size (by repeat (first | (with_reducible first | exact HB.out | apply below_alloc | apply pw_below_drewN | apply below_drew1) | exact HB.out))) : w.heap.size ≤ gb177)); clear HB; have HB := n0_; have BK177 := n1_; have GW177 := n2_; have GE177 := n3_; clear n0_ n1_ n2_ n3_; clear hb hbox hg; have hcz41_0 : w40.cell? ⟨gb177, 0, none⟩ = some (.int .i64 a1_0) := (blk_cell BK177.out 0).trans rfl; have hcz41_1 : w40.cell? ⟨gb177, 1, none⟩ = some (.int .i64 a1_1) := (blk_cell BK177.out 1).trans rfl; have hcz41_2 : w40.cell? ⟨gb177, 2, none⟩ = some (.int .i64 a1_2) := (blk_cell BK177.out 2).trans rfl; have hcz41_3 : w40.cell? ⟨gb177, 3, none⟩ = some (.int .i64 a1_3) := (blk_cell BK177.out 3).trans rfl; have hcz41_4 : w40.cell? ⟨gb177, 4, none⟩ = some (.int .i64 a1_4) := (blk_cell BK177.out 4).trans rfl; have hcz41_5 : w40.cell? ⟨gb177, 5, none⟩ = some (.int .i64 a1_5) := (blk_cell BK177.out 5).trans rfl; have hfz41_0 := blk_frozen BK177.out 0; have hfz41_1 := blk_frozen BK177.out 1; have hfz41_2 := blk_frozen BK177.out 2; have hfz41_3 := blk_frozen BK177.out 3; have hfz41_4 := blk_frozen BK177.out 4; have hfz41_5 := blk_frozen BK177.out 5) | ((with_reducible refine gate_callee (f := 117) rfl ?_); refine goesL_ (some 12) rfl rfl Try.func117 (by kernel_rfl) rfl #[.agg #[.int .i64 a1_0, .int .i64 a1_1, .int .i64 a1_2, .int .i64 a1_3, .int .i64 a1_4, .int .i64 a1_5]] rfl (by (try simp only [List.map_toArray, List.map_cons, List.map_nil]); first | done | rfl | (simp only [List.length_drop, List.length_take]; rfl)) ?_; (with_reducible refine (flyleafref15_May.calls k a1_0 a1_1 a1_2 a1_3 a1_4 a1_5 false _ A3.out).mono ?_); rintro e w42 ⟨rfl, hb⟩; refine ⟨_, rfl, ?_⟩; have n0_ := Aside0.mk (blk_below (g := gb177) (o := .cells #[.int .i64 a1_0, .int .i64 a1_1, .int .i64 a1_2, .int .i64 a1_3, .int .i64 a1_4, .int .i64 a1_5] 41 (0, 0)) (by (with_reducible repeat (first | refine blk_drewN ?_ _ | refine blk_drew ?_ | refine blk_alloc ?_ _)); exact BK177.out) hb); have n1_ := Aside0.mk (below_step (by repeat (first | (with_reducible first | exact HB.out | apply below_alloc | apply pw_below_drewN | apply below_drew1 | refine below_set ?_ GE177.out) | exact HB.out)) hb); clear BK177; clear HB; have BK177 := n0_; have HB := n1_; clear n0_ n1_; (try clear hb); (try clear hb2); (try clear hk); (try clear hi)))
   go_ret2
   exact ⟨_, by first | rfl | (simp [errW_none, errW_some] <;> rfl) | (simp [*, errW_none, errW_some] <;> rfl), by first | exact Kd.R_nil _ _ _ _ _ | exact Kd.N_nil _ _ _ _ _ | exact Kd.V_nil _ _ _ _ _ | exact Kd.Q_nil _ _ _ _ _ | exact Kd.S_nil _ _ _ _ _, by repeat (first | (with_reducible first | exact HB.out | apply below_alloc | apply pw_below_drewN | apply below_drew1 | refine below_set ?_ GE177.out) | exact HB.out)⟩
 subst c4
 have H1 : ((flyleafref15_Spread.f k l0).bind fun t179 => (flyleafref15_Add.l0 k t179 a1_0 a1_0 a1_1 a1_2 a1_3 a1_4 a1_5)) = some (r1, r2) := by rw [if_pos rfl] at H; exact H
 clear H
 have H := H1
 clear H1
 replace H := Option.bind_eq_some_iff.mp H
 obtain ⟨t179, A50, H⟩ := H
 replace H : (flyleafref15_Add.l0 k t179 a1_0 a1_0 a1_1 a1_2 a1_3 a1_4 a1_5) = some (r1, r2) := H
 have A5 := Aside0.mk A50
 clear A50
 have H' := Aside0.mk H
 clear H
 go_enter Try.func86, Try.ntmps86
 go_wp2_with (first | ((with_reducible refine gate_dst (N := 3) rfl ?_); refine box_event ?hg (N := 3) ?hd (cs := #[.int .i64 a1_0, .int .i64 a1_1, .int .i64 a1_2, .int .i64 a1_3, .int .i64 a1_4, .int .i64 a1_5]) (t := 41) ?hr ?_; (case hd => rfl); (case hg => rfl); (case hr => first | (go_simp; done) | (go_simp; rfl)); intro gb177 hg w6 hbox hb; have n0_ := Aside0.mk (below_step (by repeat (first | (with_reducible first | exact HB.out | apply below_alloc | apply pw_below_drewN | apply below_drew1) | exact HB.out)) hb); have n1_ := Aside0.mk (hbox); have n2_ := Aside0.mk ((by rw [hg]; exact (below_size (by repeat (first | (with_reducible first | exact HB.out | apply below_alloc | apply pw_below_drewN | apply below_drew1) | exact HB.out))) : w.heap.size ≤ gb177)); have n3_ := Aside0.mk ((by rw [hg]; exact (below_size (by repeat (first | (with_reducible first | exact HB.out | apply below_alloc | apply pw_below_drewN | apply below_drew1) | exact HB.out))) : w.heap.size ≤ gb177)); clear HB; have HB := n0_; have BK177 := n1_; have GW177 := n2_; have GE177 := n3_; clear n0_ n1_ n2_ n3_; clear hb hbox hg; have hcz7_0 : w6.cell? ⟨gb177, 0, none⟩ = some (.int .i64 a1_0) := (blk_cell BK177.out 0).trans rfl; have hcz7_1 : w6.cell? ⟨gb177, 1, none⟩ = some (.int .i64 a1_1) := (blk_cell BK177.out 1).trans rfl; have hcz7_2 : w6.cell? ⟨gb177, 2, none⟩ = some (.int .i64 a1_2) := (blk_cell BK177.out 2).trans rfl; have hcz7_3 : w6.cell? ⟨gb177, 3, none⟩ = some (.int .i64 a1_3) := (blk_cell BK177.out 3).trans rfl; have hcz7_4 : w6.cell? ⟨gb177, 4, none⟩ = some (.int .i64 a1_4) := (blk_cell BK177.out 4).trans rfl; have hcz7_5 : w6.cell? ⟨gb177, 5, none⟩ = some (.int .i64 a1_5) := (blk_cell BK177.out 5).trans rfl; have hfz7_0 := blk_frozen BK177.out 0; have hfz7_1 := blk_frozen BK177.out 1; have hfz7_2 := blk_frozen BK177.out 2; have hfz7_3 := blk_frozen BK177.out 3; have hfz7_4 := blk_frozen BK177.out 4; have hfz7_5 := blk_frozen BK177.out 5) | ((with_reducible refine gate_callee (f := 117) rfl ?_); refine goesL_ (some 12) rfl rfl Try.func117 (by kernel_rfl) rfl #[.agg #[.int .i64 a1_0, .int .i64 a1_1, .int .i64 a1_2, .int .i64 a1_3, .int .i64 a1_4, .int .i64 a1_5]] rfl (by (try simp only [List.map_toArray, List.map_cons, List.map_nil]); first | done | rfl | (simp only [List.length_drop, List.length_take]; rfl)) ?_; (with_reducible refine (flyleafref15_May.calls k a1_0 a1_1 a1_2 a1_3 a1_4 a1_5 true _ A3.out).mono ?_); rintro e w8 ⟨rfl, hb⟩; refine ⟨_, rfl, ?_⟩; have n0_ := Aside0.mk (blk_below (g := gb177) (o := .cells #[.int .i64 a1_0, .int .i64 a1_1, .int .i64 a1_2, .int .i64 a1_3, .int .i64 a1_4, .int .i64 a1_5] 41 (0, 0)) (by (with_reducible repeat (first | refine blk_drewN ?_ _ | refine blk_drew ?_ | refine blk_alloc ?_ _)); exact BK177.out) hb); have n1_ := Aside0.mk (below_step (by repeat (first | (with_reducible first | exact HB.out | apply below_alloc | apply pw_below_drewN | apply below_drew1 | refine below_set ?_ GE177.out) | exact HB.out)) hb); clear BK177; clear HB; have BK177 := n0_; have HB := n1_; clear n0_ n1_; (try clear hb); (try clear hb2); (try clear hk); (try clear hi)) | ((with_reducible refine gate_callee (f := 44) rfl ?_); refine goesL_ (some 16) rfl rfl Try.func44 (by kernel_rfl) rfl #[.slice A0 l0.length c0] rfl (by (try simp only [List.map_toArray, List.map_cons, List.map_nil]); first | done | rfl | (simp only [List.length_drop, List.length_take]; rfl)) ?_; (with_reducible refine (flyleafref15_Spread.calls k _ _ l0 t179 _ ?side1 ?side2 A5.out).mono ?_); (case side1 => repeat (first | exact (Kd.C_below HR0.out HB.out) | (with_reducible refine Kd.C_alloc ?_ _) | (with_reducible refine Kd.C_drewN ?_ _) | (with_reducible refine Kd.C_drew ?_))); (case side2 => exact HC0.out); rintro e w9 ⟨v180, rfl, ho0, hb⟩; refine ⟨_, rfl, ?_⟩; have n0_ := Aside0.mk (Kd.R_lower ho0 (below_size (by repeat (first | (with_reducible first | exact HB.out | apply below_alloc | apply pw_below_drewN | apply below_drew1 | refine below_set ?_ GE177.out) | exact HB.out)))); have n1_ := Aside0.mk (blk_below (g := gb177) (o := .cells #[.int .i64 a1_0, .int .i64 a1_1, .int .i64 a1_2, .int .i64 a1_3, .int .i64 a1_4, .int .i64 a1_5] 41 (0, 0)) (by (with_reducible repeat (first | refine blk_drewN ?_ _ | refine blk_drew ?_ | refine blk_alloc ?_ _)); exact BK177.out) hb); have n2_ := Aside0.mk (below_step (by repeat (first | (with_reducible first | exact HB.out | apply below_alloc | apply pw_below_drewN | apply below_drew1 | refine below_set ?_ GE177.out) | exact HB.out)) hb); clear BK177; clear HB; have HO181 := n0_; have BK177 := n1_; have HB := n2_; clear n0_ n1_ n2_; (try clear hb); (try clear hb2); (try clear hk); (try clear hi); (try clear ho0); have hcz10_0 : w9.cell? ⟨gb177, 0, none⟩ = some (.int .i64 a1_0) := (blk_cell BK177.out 0).trans rfl; have hcz10_1 : w9.cell? ⟨gb177, 1, none⟩ = some (.int .i64 a1_1) := (blk_cell BK177.out 1).trans rfl; have hcz10_2 : w9.cell? ⟨gb177, 2, none⟩ = some (.int .i64 a1_2) := (blk_cell BK177.out 2).trans rfl; have hcz10_3 : w9.cell? ⟨gb177, 3, none⟩ = some (.int .i64 a1_3) := (blk_cell BK177.out 3).trans rfl; have hcz10_4 : w9.cell? ⟨gb177, 4, none⟩ = some (.int .i64 a1_4) := (blk_cell BK177.out 4).trans rfl; have hcz10_5 : w9.cell? ⟨gb177, 5, none⟩ = some (.int .i64 a1_5) := (blk_cell BK177.out 5).trans rfl; have hfz10_0 := blk_frozen BK177.out 0; have hfz10_1 := blk_frozen BK177.out 1; have hfz10_2 := blk_frozen BK177.out 2; have hfz10_3 := blk_frozen BK177.out 3; have hfz10_4 := blk_frozen BK177.out 4; have hfz10_5 := blk_frozen BK177.out 5))
 go_loopg [8] k (fun kq v8 w' => ∃ (x8_1 : Int), v8 = .int .i64 x8_1 ∧ Aside0 (flyleafref15_Add.l0 kq t179 x8_1 a1_0 a1_1 a1_2 a1_3 a1_4 a1_5 = some (r1, r2)) ∧ Aside0 (kq ≤ k) ∧ Aside0 (Kd.R k87 87 w' w.heap.size (fun _ => True) v180 t179) ∧ Aside0 (w'.heap[gb177]? = some (.cells #[.int .i64 a1_0, .int .i64 a1_1, .int .i64 a1_2, .int .i64 a1_3, .int .i64 a1_4, .int .i64 a1_5] 41 (0, 0))) ∧ Aside0 (Below w.heap.size w w'))
 case atStart => exact ⟨(a1_0), (by first | rfl | (simp; done) | (simp [*]; done)), H', ⟨Nat.le_refl _⟩, ⟨by (with_reducible repeat (first | apply Kd.R_alloc | apply Kd.R_drewN | apply Kd.R_drew)); exact HO181.out⟩, ⟨by (with_reducible repeat (first | refine blk_drewN ?_ _ | refine blk_drew ?_ | refine blk_alloc ?_ _)); exact BK177.out⟩, ⟨by repeat (first | (with_reducible first | exact HB.out | apply below_alloc | apply pw_below_drewN | apply below_drew1 | refine below_set ?_ GE177.out) | exact HB.out)⟩⟩
 case round =>
  clear H'
  try clear c1
  try clear p2
  try clear c4
  try clear c8
  try clear hcz10_0
  try clear hcz10_1
  try clear hcz10_2
  try clear hcz10_3
  try clear hcz10_4
  try clear hcz10_5
  try clear hcz7_0
  try clear hcz7_1
  try clear hcz7_2
  try clear hcz7_3
  try clear hcz7_4
  try clear hcz7_5
  try clear hfz10_0
  try clear hfz10_1
  try clear hfz10_2
  try clear hfz10_3
  try clear hfz10_4
  try clear hfz10_5
  try clear hfz7_0
  try clear hfz7_1
  try clear hfz7_2
  try clear hfz7_3
  try clear hfz7_4
  try clear hfz7_5
  obtain ⟨x8_1, rfl, HA, HK1, HO_7, BK177, HB⟩ := hrel
  cases gk with
  | zero => exact absurd HA.out (by simp [flyleafref15_Add.l0])
  | succ k1 =>
   have H := HA.out
   clear HA
   simp only [flyleafref15_Add.l0] at H
   by_cases c11 : x8_1 < a1_1
   · rw [if_pos c11] at H
     have c11b0 : decide (x8_1 < a1_1) = true := decide_eq_true c11
     clear c11
     by_cases c12 : 0 ≤ x8_1
     rotate_left
     · rw [if_neg c12] at H
       exact absurd H (by simp)
     rw [if_pos c12] at H
     have c12b0 : decide (0 ≤ x8_1) = true := decide_eq_true c12
     clear c12
     by_cases c13 : x8_1 < (t179.length : Int)
     rotate_left
     · rw [if_neg c13] at H
       exact absurd H (by simp)
     rw [if_pos c13] at H
     have c13b0 : decide (x8_1 < (t179.length : Int)) = true := decide_eq_true c13
     clear c13
     obtain ⟨bq14, hbq14⟩ : ∃ b_ : Bool, b_ = ((rd_T87 t179 x8_1).f1) := ⟨_, rfl⟩
     replace H : (if bq14 = true then (some (([] : List (S41)), 13)) else (flyleafref15_Add.l0 k1 t179 (wrap64 (x8_1 + 1)) a1_0 a1_1 a1_2 a1_3 a1_4 a1_5)) = some (r1, r2) := by rw [← hbq14] at H; exact H
     have Nbq14 := Aside0.mk hbq14
     clear hbq14
     by_cases c15 : bq14 = true
     · subst c15
       have H1 : (some (([] : List (S41)), 13)) = some (r1, r2) := by rw [if_pos rfl] at H; exact H
       clear H
       have H := H1
       clear H1
       simp only [Option.some.injEq, Prod.mk.injEq] at H
       obtain ⟨rfl, rfl⟩ := H
       have hcz16_0 : wr.cell? ⟨gb177, 0, none⟩ = some (.int .i64 a1_0) := (blk_cell BK177.out 0).trans rfl
       have hcz16_1 : wr.cell? ⟨gb177, 1, none⟩ = some (.int .i64 a1_1) := (blk_cell BK177.out 1).trans rfl
       have hcz16_2 : wr.cell? ⟨gb177, 2, none⟩ = some (.int .i64 a1_2) := (blk_cell BK177.out 2).trans rfl
       have hcz16_3 : wr.cell? ⟨gb177, 3, none⟩ = some (.int .i64 a1_3) := (blk_cell BK177.out 3).trans rfl
       have hcz16_4 : wr.cell? ⟨gb177, 4, none⟩ = some (.int .i64 a1_4) := (blk_cell BK177.out 4).trans rfl
       have hcz16_5 : wr.cell? ⟨gb177, 5, none⟩ = some (.int .i64 a1_5) := (blk_cell BK177.out 5).trans rfl
       have hfz16_0 := blk_frozen BK177.out 0
       have hfz16_1 := blk_frozen BK177.out 1
       have hfz16_2 := blk_frozen BK177.out 2
       have hfz16_3 := blk_frozen BK177.out 3
       have hfz16_4 := blk_frozen BK177.out 4
       have hfz16_5 := blk_frozen BK177.out 5
       obtain ⟨Ao17, co17, eo17⟩ := Kd.R_slice HO_7.out
       subst eo17
       have p182 : 0 ≤ (x8_1 : Int) := of_decide_eq_true (by first | (with_reducible assumption) | assumption)
       have q182 : x8_1 < (t179.length : Int) := of_decide_eq_true (by first | (with_reducible assumption) | assumption)
       obtain ⟨ad182, e182, hx182_0, hx182_1, hx182_2, hx182_3, hx182_4, hx182_5, hx182_6⟩ := at_T87 (Kd.R_reads' HO_7.out).2.2 x8_1 p182 q182
       (try rw [← Nbq14.out] at hx182_6)
       cases e182
       replace p182 := eq_true p182
       replace q182 := eq_true q182
       go_wp2
       go_ret2
       exact ⟨_, by first | rfl | (simp [errW_none, errW_some] <;> rfl) | (simp [*, errW_none, errW_some] <;> rfl), by first | exact Kd.R_nil _ _ _ _ _ | exact Kd.N_nil _ _ _ _ _ | exact Kd.V_nil _ _ _ _ _ | exact Kd.Q_nil _ _ _ _ _ | exact Kd.S_nil _ _ _ _ _, by repeat (first | (with_reducible first | exact HB.out | apply below_alloc | apply pw_below_drewN | apply below_drew1 | refine below_set ?_ GE177.out) | exact HB.out)⟩
     replace c15 := Bool.eq_false_iff.mpr c15
     subst c15
     have H1 : (flyleafref15_Add.l0 k1 t179 (wrap64 (x8_1 + 1)) a1_0 a1_1 a1_2 a1_3 a1_4 a1_5) = some (r1, r2) := by rw [if_neg (show ¬ (false = true) by decide)] at H; exact H
     clear H
     have H := H1
     clear H1
     have H' := Aside0.mk H
     clear H
     have hcz18_0 : wr.cell? ⟨gb177, 0, none⟩ = some (.int .i64 a1_0) := (blk_cell BK177.out 0).trans rfl
     have hcz18_1 : wr.cell? ⟨gb177, 1, none⟩ = some (.int .i64 a1_1) := (blk_cell BK177.out 1).trans rfl
     have hcz18_2 : wr.cell? ⟨gb177, 2, none⟩ = some (.int .i64 a1_2) := (blk_cell BK177.out 2).trans rfl
     have hcz18_3 : wr.cell? ⟨gb177, 3, none⟩ = some (.int .i64 a1_3) := (blk_cell BK177.out 3).trans rfl
     have hcz18_4 : wr.cell? ⟨gb177, 4, none⟩ = some (.int .i64 a1_4) := (blk_cell BK177.out 4).trans rfl
     have hcz18_5 : wr.cell? ⟨gb177, 5, none⟩ = some (.int .i64 a1_5) := (blk_cell BK177.out 5).trans rfl
     have hfz18_0 := blk_frozen BK177.out 0
     have hfz18_1 := blk_frozen BK177.out 1
     have hfz18_2 := blk_frozen BK177.out 2
     have hfz18_3 := blk_frozen BK177.out 3
     have hfz18_4 := blk_frozen BK177.out 4
     have hfz18_5 := blk_frozen BK177.out 5
     obtain ⟨Ao19, co19, eo19⟩ := Kd.R_slice HO_7.out
     subst eo19
     have p182 : 0 ≤ (x8_1 : Int) := of_decide_eq_true (by first | (with_reducible assumption) | assumption)
     have q182 : x8_1 < (t179.length : Int) := of_decide_eq_true (by first | (with_reducible assumption) | assumption)
     obtain ⟨ad182, e182, hx182_0, hx182_1, hx182_2, hx182_3, hx182_4, hx182_5, hx182_6⟩ := at_T87 (Kd.R_reads' HO_7.out).2.2 x8_1 p182 q182
     (try rw [← Nbq14.out] at hx182_6)
     cases e182
     replace p182 := eq_true p182
     replace q182 := eq_true q182
     go_wp2
     go_roundg k1
     case measure => have := HK1.out; omega
     case rel => exact ⟨(wrap64 (x8_1 + 1)), (by first | rfl | (simp; done) | (simp [*]; done)), H', ⟨by have := HK1.out; omega⟩, ⟨by (with_reducible repeat (first | apply Kd.R_alloc | apply Kd.R_drewN | apply Kd.R_drew)); exact HO_7.out⟩, ⟨by (with_reducible repeat (first | refine blk_drewN ?_ _ | refine blk_drew ?_ | refine blk_alloc ?_ _)); exact BK177.out⟩, ⟨by repeat (first | (with_reducible first | exact HB.out | apply below_alloc | apply pw_below_drewN | apply below_drew1 | refine below_set ?_ GE177.out) | exact HB.out)⟩⟩
   rw [if_neg c11] at H
   have c11b0 : decide (x8_1 < a1_1) = false := decide_eq_false c11
   clear c11
   obtain ⟨y183, hy183⟩ : ∃ y_ : List (S41), y_ = (([(⟨a1_0, a1_1, a1_2, a1_3, a1_4, a1_5⟩ : S41)] : List (S41))) := ⟨_, rfl⟩
   replace H : ((flyleafref15_Spread.f k1 y183).bind fun t186 => (flyleafref15_Add.l1 k1 t179 t186 a1_0 a1_0 a1_1 a1_2 a1_3 a1_4 a1_5)) = some (r1, r2) := by first | (rw [hy183]; with_reducible exact H) | (have H2_ := (Option.bind_some _ _).symm.trans H; rw [hy183]; with_reducible exact H2_) | (have H2_ := (Option.bind_some _ _).symm.trans H; with_reducible exact H2_) | with_reducible exact H | (rw [hy183]; exact H) | exact H
   have Ny183 := Aside0.mk hy183
   clear hy183
   replace H := Option.bind_eq_some_iff.mp H
   obtain ⟨t186, A200, H⟩ := H
   replace H : (flyleafref15_Add.l1 k1 t179 t186 a1_0 a1_0 a1_1 a1_2 a1_3 a1_4 a1_5) = some (r1, r2) := H
   have A20 := Aside0.mk A200
   clear A200
   have H' := Aside0.mk H
   clear H
   have hcz21_0 : wr.cell? ⟨gb177, 0, none⟩ = some (.int .i64 a1_0) := (blk_cell BK177.out 0).trans rfl
   have hcz21_1 : wr.cell? ⟨gb177, 1, none⟩ = some (.int .i64 a1_1) := (blk_cell BK177.out 1).trans rfl
   have hcz21_2 : wr.cell? ⟨gb177, 2, none⟩ = some (.int .i64 a1_2) := (blk_cell BK177.out 2).trans rfl
   have hcz21_3 : wr.cell? ⟨gb177, 3, none⟩ = some (.int .i64 a1_3) := (blk_cell BK177.out 3).trans rfl
   have hcz21_4 : wr.cell? ⟨gb177, 4, none⟩ = some (.int .i64 a1_4) := (blk_cell BK177.out 4).trans rfl
   have hcz21_5 : wr.cell? ⟨gb177, 5, none⟩ = some (.int .i64 a1_5) := (blk_cell BK177.out 5).trans rfl
   have hfz21_0 := blk_frozen BK177.out 0
   have hfz21_1 := blk_frozen BK177.out 1
   have hfz21_2 := blk_frozen BK177.out 2
   have hfz21_3 := blk_frozen BK177.out 3
   have hfz21_4 := blk_frozen BK177.out 4
   have hfz21_5 := blk_frozen BK177.out 5
   go_wp2_with (first | ((with_reducible refine gate_dst (N := 31) rfl ?_); refine Kd.R_lit k41 _ 41 ?hg (N := 31) ?hd (xs := ([(⟨a1_0, a1_1, a1_2, a1_3, a1_4, a1_5⟩ : S41)] : List (S41))) (inner := [.int .i64 a1_0, .int .i64 a1_1, .int .i64 a1_2, .int .i64 a1_3, .int .i64 a1_4, .int .i64 a1_5]) (ok := fun _ => True) (okp := fun _ => True) ?hr ?hp (fun _ hk => hk) trivial (Below.refl _ _) (Nat.le_refl _) (by simp) ?_; (case hd => rfl); (case hg => rfl); (case hr => first | (go_simp; done) | (go_simp; rfl)); (case hp => exact (Reps.c6 (show Kd.M k41 _ _ _ (⟨a1_0, a1_1, a1_2, a1_3, a1_4, a1_5⟩ : S41) [.int .i64 a1_0, .int .i64 a1_1, .int .i64 a1_2, .int .i64 a1_3, .int .i64 a1_4, .int .i64 a1_5] from (k41_mkM _ _ _ (⟨a1_0, a1_1, a1_2, a1_3, a1_4, a1_5⟩ : S41) )) (Reps.none _ _))); intro v184 w22 ho23 hb hg_ hnew_; clear hg_ hnew_; (first | rw [← Ny183.out] at ho23 | (simp only [Int.reduceToNat] at ho23; rw [← Ny183.out] at ho23)); have n0_ := Aside0.mk (Kd.R_below (by (with_reducible repeat (first | apply Kd.R_alloc | apply Kd.R_drewN | apply Kd.R_drew)); exact HO_7.out) hb); have n1_ := Aside0.mk (Kd.R_lower (Kd.R_newB ho23 (g := gb177) (o := .cells #[.int .i64 a1_0, .int .i64 a1_1, .int .i64 a1_2, .int .i64 a1_3, .int .i64 a1_4, .int .i64 a1_5] 41 (0, 0)) (by (with_reducible repeat (first | refine blk_drewN ?_ _ | refine blk_drew ?_ | refine blk_alloc ?_ _)); exact BK177.out)) (below_size (by repeat (first | (with_reducible first | exact HB.out | apply below_alloc | apply pw_below_drewN | apply below_drew1 | refine below_set ?_ GE177.out) | exact HB.out)))); have n2_ := Aside0.mk (blk_below (g := gb177) (o := .cells #[.int .i64 a1_0, .int .i64 a1_1, .int .i64 a1_2, .int .i64 a1_3, .int .i64 a1_4, .int .i64 a1_5] 41 (0, 0)) (by (with_reducible repeat (first | refine blk_drewN ?_ _ | refine blk_drew ?_ | refine blk_alloc ?_ _)); exact BK177.out) hb); have n3_ := Aside0.mk (below_step (by repeat (first | (with_reducible first | exact HB.out | apply below_alloc | apply pw_below_drewN | apply below_drew1 | refine below_set ?_ GE177.out) | exact HB.out)) hb); clear HO_7; clear BK177; clear HB; have HO_7 := n0_; have HO185 := n1_; have BK177 := n2_; have HB := n3_; clear n0_ n1_ n2_ n3_; clear hb ho23; obtain ⟨Ao24, co24, eo24⟩ := Kd.R_slice HO185.out; subst eo24) | ((with_reducible refine gate_callee (f := 44) rfl ?_); refine goesL_ (some 32) rfl rfl Try.func44 (by kernel_rfl) rfl #[.slice Ao24 y183.length co24] rfl (by (try simp only [List.map_toArray, List.map_cons, List.map_nil]); first | done | rfl | (simp only [List.length_drop, List.length_take]; rfl)) ?_; (with_reducible refine (flyleafref15_Spread.calls k1 _ _ y183 t186 _ ?side1 ?side2 A20.out).mono ?_); (case side1 => repeat (first | exact (Kd.R_reads' HO185.out).2.2 | (with_reducible refine Kd.C_alloc ?_ _) | (with_reducible refine Kd.C_drewN ?_ _) | (with_reducible refine Kd.C_drew ?_))); (case side2 => exact (Kd.R_reads' HO185.out).2.1); rintro e w25 ⟨v187, rfl, ho0, hb⟩; refine ⟨_, rfl, ?_⟩; have n0_ := Aside0.mk (Kd.R_elder' (by (with_reducible repeat (first | apply Kd.R_alloc | apply Kd.R_drewN | apply Kd.R_drew)); exact HO_7.out) (Kd.R_base ho0) hb); have n1_ := Aside0.mk (Kd.R_below (by (with_reducible repeat (first | apply Kd.R_alloc | apply Kd.R_drewN | apply Kd.R_drew)); exact HO185.out) hb); have n2_ := Aside0.mk (Kd.R_lower (Kd.R_new' ho0 (Kd.R_lt (by (with_reducible repeat (first | apply Kd.R_alloc | apply Kd.R_drewN | apply Kd.R_drew)); exact HO_7.out))) (below_size (by repeat (first | (with_reducible first | exact HB.out | apply below_alloc | apply pw_below_drewN | apply below_drew1 | refine below_set ?_ GE177.out) | exact HB.out)))); have n3_ := Aside0.mk (blk_below (g := gb177) (o := .cells #[.int .i64 a1_0, .int .i64 a1_1, .int .i64 a1_2, .int .i64 a1_3, .int .i64 a1_4, .int .i64 a1_5] 41 (0, 0)) (by (with_reducible repeat (first | refine blk_drewN ?_ _ | refine blk_drew ?_ | refine blk_alloc ?_ _)); exact BK177.out) hb); have n4_ := Aside0.mk (below_step (by repeat (first | (with_reducible first | exact HB.out | apply below_alloc | apply pw_below_drewN | apply below_drew1 | refine below_set ?_ GE177.out) | exact HB.out)) hb); clear HO_7; clear HO185; clear BK177; clear HB; have HO_7 := n0_; have HO185 := n1_; have HO188 := n2_; have BK177 := n3_; have HB := n4_; clear n0_ n1_ n2_ n3_ n4_; (try clear hb); (try clear hb2); (try clear hk); (try clear hi); (try clear ho0); have hcz26_0 : w25.cell? ⟨gb177, 0, none⟩ = some (.int .i64 a1_0) := (blk_cell BK177.out 0).trans rfl; have hcz26_1 : w25.cell? ⟨gb177, 1, none⟩ = some (.int .i64 a1_1) := (blk_cell BK177.out 1).trans rfl; have hcz26_2 : w25.cell? ⟨gb177, 2, none⟩ = some (.int .i64 a1_2) := (blk_cell BK177.out 2).trans rfl; have hcz26_3 : w25.cell? ⟨gb177, 3, none⟩ = some (.int .i64 a1_3) := (blk_cell BK177.out 3).trans rfl; have hcz26_4 : w25.cell? ⟨gb177, 4, none⟩ = some (.int .i64 a1_4) := (blk_cell BK177.out 4).trans rfl; have hcz26_5 : w25.cell? ⟨gb177, 5, none⟩ = some (.int .i64 a1_5) := (blk_cell BK177.out 5).trans rfl; have hfz26_0 := blk_frozen BK177.out 0; have hfz26_1 := blk_frozen BK177.out 1; have hfz26_2 := blk_frozen BK177.out 2; have hfz26_3 := blk_frozen BK177.out 3; have hfz26_4 := blk_frozen BK177.out 4; have hfz26_5 := blk_frozen BK177.out 5))
   go_loopg [10] k1 (fun kq v10 w' => ∃ (x7_2 : List (S87)) (x10_2 : Int), v10 = .int .i64 x10_2 ∧ Aside0 (flyleafref15_Add.l1 kq x7_2 t186 x10_2 a1_0 a1_1 a1_2 a1_3 a1_4 a1_5 = some (r1, r2)) ∧ Aside0 (kq ≤ k1) ∧ Aside0 (Kd.R k87 87 w' w.heap.size (fun k_ => some k_ ≠ (v187 : Value).ownBlock) v180 x7_2) ∧ Aside0 (Kd.R k87 87 w' w.heap.size (fun k_ => some k_ ≠ (v180 : Value).ownBlock) v187 t186) ∧ Aside0 (w'.heap[gb177]? = some (.cells #[.int .i64 a1_0, .int .i64 a1_1, .int .i64 a1_2, .int .i64 a1_3, .int .i64 a1_4, .int .i64 a1_5] 41 (0, 0))) ∧ Aside0 (Below w.heap.size w w'))
   case atStart => exact ⟨(t179), (a1_0), (by first | rfl | (simp; done) | (simp [*]; done)), H', ⟨Nat.le_refl _⟩, ⟨by (with_reducible repeat (first | apply Kd.R_alloc | apply Kd.R_drewN | apply Kd.R_drew)); exact Kd.R_mono HO_7.out (fun _ hk => hk.2)⟩, ⟨by (with_reducible repeat (first | apply Kd.R_alloc | apply Kd.R_drewN | apply Kd.R_drew)); exact Kd.R_mono HO188.out (fun _ hk => hk.2)⟩, ⟨by (with_reducible repeat (first | refine blk_drewN ?_ _ | refine blk_drew ?_ | refine blk_alloc ?_ _)); exact BK177.out⟩, ⟨by repeat (first | (with_reducible first | exact HB.out | apply below_alloc | apply pw_below_drewN | apply below_drew1 | refine below_set ?_ GE177.out) | exact HB.out)⟩⟩
   case round =>
    clear H'
    try clear c1
    try clear p1
    try clear q1
    try clear hx1
    try clear p2
    try clear c4
    try clear c6
    try clear p6
    try clear c8
    try clear c11
    try clear c11b0
    try clear c12
    try clear c12b0
    try clear c13
    try clear c13b0
    try clear q14
    try clear c15
    try clear p18
    try clear q18
    try clear hx18
    try clear hcz10_0
    try clear hcz10_1
    try clear hcz10_2
    try clear hcz10_3
    try clear hcz10_4
    try clear hcz10_5
    try clear hcz16_0
    try clear hcz16_1
    try clear hcz16_2
    try clear hcz16_3
    try clear hcz16_4
    try clear hcz16_5
    try clear hcz18_0
    try clear hcz18_1
    try clear hcz18_2
    try clear hcz18_3
    try clear hcz18_4
    try clear hcz18_5
    try clear hcz21_0
    try clear hcz21_1
    try clear hcz21_2
    try clear hcz21_3
    try clear hcz21_4
    try clear hcz21_5
    try clear hcz26_0
    try clear hcz26_1
    try clear hcz26_2
    try clear hcz26_3
    try clear hcz26_4
    try clear hcz26_5
    try clear hcz7_0
    try clear hcz7_1
    try clear hcz7_2
    try clear hcz7_3
    try clear hcz7_4
    try clear hcz7_5
    try clear hfz10_0
    try clear hfz10_1
    try clear hfz10_2
    try clear hfz10_3
    try clear hfz10_4
    try clear hfz10_5
    try clear hfz16_0
    try clear hfz16_1
    try clear hfz16_2
    try clear hfz16_3
    try clear hfz16_4
    try clear hfz16_5
    try clear hfz18_0
    try clear hfz18_1
    try clear hfz18_2
    try clear hfz18_3
    try clear hfz18_4
    try clear hfz18_5
    try clear hfz21_0
    try clear hfz21_1
    try clear hfz21_2
    try clear hfz21_3
    try clear hfz21_4
    try clear hfz21_5
    try clear hfz26_0
    try clear hfz26_1
    try clear hfz26_2
    try clear hfz26_3
    try clear hfz26_4
    try clear hfz26_5
    try clear hfz7_0
    try clear hfz7_1
    try clear hfz7_2
    try clear hfz7_3
    try clear hfz7_4
    try clear hfz7_5
    try clear hx182_0
    try clear hx182_1
    try clear hx182_2
    try clear hx182_3
    try clear hx182_4
    try clear hx182_5
    try clear hx182_6
    try clear p182
    try clear p2
    try clear q182
    obtain ⟨x7_2, x10_2, rfl, HA, HK2, HO_7, HO_9, BK177, HB⟩ := hrel
    cases gk with
    | zero => exact absurd HA.out (by simp [flyleafref15_Add.l1])
    | succ k2 =>
     have H := HA.out
     clear HA
     simp only [flyleafref15_Add.l1] at H
     by_cases c27 : x10_2 < a1_1
     rotate_left
     · rw [if_neg c27] at H
       have c27b0 : decide (x10_2 < a1_1) = false := decide_eq_false c27
       clear c27
       replace H := Option.bind_eq_some_iff.mp H
       obtain ⟨t191, A360, H⟩ := H
       replace H : (some (t191, 0)) = some (r1, r2) := H
       have A36 := Aside0.mk A360
       clear A360
       simp only [Option.some.injEq, Prod.mk.injEq] at H
       obtain ⟨rfl, rfl⟩ := H
       have hcz37_0 : wr.cell? ⟨gb177, 0, none⟩ = some (.int .i64 a1_0) := (blk_cell BK177.out 0).trans rfl
       have hcz37_1 : wr.cell? ⟨gb177, 1, none⟩ = some (.int .i64 a1_1) := (blk_cell BK177.out 1).trans rfl
       have hcz37_2 : wr.cell? ⟨gb177, 2, none⟩ = some (.int .i64 a1_2) := (blk_cell BK177.out 2).trans rfl
       have hcz37_3 : wr.cell? ⟨gb177, 3, none⟩ = some (.int .i64 a1_3) := (blk_cell BK177.out 3).trans rfl
       have hcz37_4 : wr.cell? ⟨gb177, 4, none⟩ = some (.int .i64 a1_4) := (blk_cell BK177.out 4).trans rfl
       have hcz37_5 : wr.cell? ⟨gb177, 5, none⟩ = some (.int .i64 a1_5) := (blk_cell BK177.out 5).trans rfl
       have hfz37_0 := blk_frozen BK177.out 0
       have hfz37_1 := blk_frozen BK177.out 1
       have hfz37_2 := blk_frozen BK177.out 2
       have hfz37_3 := blk_frozen BK177.out 3
       have hfz37_4 := blk_frozen BK177.out 4
       have hfz37_5 := blk_frozen BK177.out 5
       obtain ⟨Ao38, co38, eo38⟩ := Kd.R_slice HO_7.out
       subst eo38
       go_wp2_with (first | ((with_reducible refine gate_callee (f := 116) rfl ?_); refine goesL_ (some 49) rfl rfl Try.func116 (by kernel_rfl) rfl #[.slice Ao38 x7_2.length co38] rfl (by (try simp only [List.map_toArray, List.map_cons, List.map_nil]); first | done | rfl | (simp only [List.length_drop, List.length_take]; rfl)) ?_; (with_reducible refine (flyleafref15_Row.calls k2 _ _ x7_2 t191 _ ?side1 ?side2 A36.out).mono ?_); (case side1 => repeat (first | exact (Kd.R_reads' HO_7.out).2.2 | (with_reducible refine Kd.C_alloc ?_ _) | (with_reducible refine Kd.C_drewN ?_ _) | (with_reducible refine Kd.C_drew ?_))); (case side2 => exact (Kd.R_reads' HO_7.out).2.1); rintro e w39 ⟨v192, rfl, ho0, hb⟩; refine ⟨_, rfl, ?_⟩; have n0_ := Aside0.mk (Kd.R_below (by (with_reducible repeat (first | apply Kd.R_alloc | apply Kd.R_drewN | apply Kd.R_drew)); exact HO_7.out) hb); have n1_ := Aside0.mk (Kd.R_below (by (with_reducible repeat (first | apply Kd.R_alloc | apply Kd.R_drewN | apply Kd.R_drew)); exact HO_9.out) hb); have n2_ := Aside0.mk (Kd.R_lower (Kd.R_newB ho0 (g := gb177) (o := .cells #[.int .i64 a1_0, .int .i64 a1_1, .int .i64 a1_2, .int .i64 a1_3, .int .i64 a1_4, .int .i64 a1_5] 41 (0, 0)) (by (with_reducible repeat (first | refine blk_drewN ?_ _ | refine blk_drew ?_ | refine blk_alloc ?_ _)); exact BK177.out)) (below_size (by repeat (first | (with_reducible first | exact HB.out | apply below_alloc | apply pw_below_drewN | apply below_drew1 | refine below_set ?_ GE177.out) | exact HB.out)))); have n3_ := Aside0.mk (blk_below (g := gb177) (o := .cells #[.int .i64 a1_0, .int .i64 a1_1, .int .i64 a1_2, .int .i64 a1_3, .int .i64 a1_4, .int .i64 a1_5] 41 (0, 0)) (by (with_reducible repeat (first | refine blk_drewN ?_ _ | refine blk_drew ?_ | refine blk_alloc ?_ _)); exact BK177.out) hb); have n4_ := Aside0.mk (below_step (by repeat (first | (with_reducible first | exact HB.out | apply below_alloc | apply pw_below_drewN | apply below_drew1 | refine below_set ?_ GE177.out) | exact HB.out)) hb); clear HO_7; clear HO_9; clear BK177; clear HB; have HO_7 := n0_; have HO_9 := n1_; have HO193 := n2_; have BK177 := n3_; have HB := n4_; clear n0_ n1_ n2_ n3_ n4_; (try clear hb); (try clear hb2); (try clear hk); (try clear hi); (try clear ho0)))
       go_ret2
       exact ⟨_, by first | rfl | (simp [errW_none, errW_some] <;> rfl) | (simp [*, errW_none, errW_some] <;> rfl), by (with_reducible repeat (first | apply Kd.R_alloc | apply Kd.R_drewN | apply Kd.R_drew)); exact Kd.R_mono HO193.out (fun _ hk => trivial), by repeat (first | (with_reducible first | exact HB.out | apply below_alloc | apply pw_below_drewN | apply below_drew1 | refine below_set ?_ GE177.out) | exact HB.out)⟩
     rw [if_pos c27] at H
     have c27b0 : decide (x10_2 < a1_1) = true := decide_eq_true c27
     clear c27
     by_cases c28 : 0 ≤ x10_2
     rotate_left
     · rw [if_neg c28] at H
       exact absurd H (by simp)
     rw [if_pos c28] at H
     have c28b0 : decide (0 ≤ x10_2) = true := decide_eq_true c28
     clear c28
     by_cases c29 : x10_2 < (t186.length : Int)
     rotate_left
     · rw [if_neg c29] at H
       exact absurd H (by simp)
     rw [if_pos c29] at H
     have c29b0 : decide (x10_2 < (t186.length : Int)) = true := decide_eq_true c29
     clear c29
     by_cases c30 : x10_2 < (x7_2.length : Int)
     rotate_left
     · rw [if_neg c30] at H
       exact absurd H (by simp)
     rw [if_pos c30] at H
     have c30b0 : decide (x10_2 < (x7_2.length : Int)) = true := decide_eq_true c30
     clear c30
     obtain ⟨y190, hy190⟩ : ∃ y_ : List (S87), y_ = (x7_2.set (x10_2 : Int).toNat (⟨(⟨(rd_T87 t186 x10_2).f0.f0, (rd_T87 t186 x10_2).f0.f1, (rd_T87 t186 x10_2).f0.f2, (rd_T87 t186 x10_2).f0.f3, (rd_T87 t186 x10_2).f0.f4, (rd_T87 t186 x10_2).f0.f5⟩ : S41), (rd_T87 t186 x10_2).f1⟩ : S87)) := ⟨_, rfl⟩
     replace H : (flyleafref15_Add.l1 k2 y190 t186 (wrap64 (x10_2 + 1)) a1_0 a1_1 a1_2 a1_3 a1_4 a1_5) = some (r1, r2) := by first | (rw [hy190]; with_reducible exact H) | (have H2_ := (Option.bind_some _ _).symm.trans H; rw [hy190]; with_reducible exact H2_) | (have H2_ := (Option.bind_some _ _).symm.trans H; with_reducible exact H2_) | with_reducible exact H | (rw [hy190]; exact H) | exact H
     have Ny190 := Aside0.mk hy190
     clear hy190
     have H' := Aside0.mk H
     clear H
     have hcz32_0 : wr.cell? ⟨gb177, 0, none⟩ = some (.int .i64 a1_0) := (blk_cell BK177.out 0).trans rfl
     have hcz32_1 : wr.cell? ⟨gb177, 1, none⟩ = some (.int .i64 a1_1) := (blk_cell BK177.out 1).trans rfl
     have hcz32_2 : wr.cell? ⟨gb177, 2, none⟩ = some (.int .i64 a1_2) := (blk_cell BK177.out 2).trans rfl
     have hcz32_3 : wr.cell? ⟨gb177, 3, none⟩ = some (.int .i64 a1_3) := (blk_cell BK177.out 3).trans rfl
     have hcz32_4 : wr.cell? ⟨gb177, 4, none⟩ = some (.int .i64 a1_4) := (blk_cell BK177.out 4).trans rfl
     have hcz32_5 : wr.cell? ⟨gb177, 5, none⟩ = some (.int .i64 a1_5) := (blk_cell BK177.out 5).trans rfl
     have hfz32_0 := blk_frozen BK177.out 0
     have hfz32_1 := blk_frozen BK177.out 1
     have hfz32_2 := blk_frozen BK177.out 2
     have hfz32_3 := blk_frozen BK177.out 3
     have hfz32_4 := blk_frozen BK177.out 4
     have hfz32_5 := blk_frozen BK177.out 5
     obtain ⟨Ao33, co33, eo33⟩ := Kd.R_slice HO_9.out
     subst eo33
     have p189 : 0 ≤ (x10_2 : Int) := of_decide_eq_true (by first | (with_reducible assumption) | assumption)
     have q189 : x10_2 < (t186.length : Int) := of_decide_eq_true (by first | (with_reducible assumption) | assumption)
     obtain ⟨ad189, e189, hx189_0, hx189_1, hx189_2, hx189_3, hx189_4, hx189_5, hx189_6⟩ := at_T87 (Kd.R_reads' HO_9.out).2.2 x10_2 p189 q189
     cases e189
     replace p189 := eq_true p189
     replace q189 := eq_true q189
     have p31 : 0 ≤ (x10_2 : Int) := of_decide_eq_true (by first | (with_reducible assumption) | assumption)
     have q31 : (x10_2 : Int) < ((x7_2.length : Int) : Int) := of_decide_eq_true (by first | (with_reducible assumption) | assumption)
     obtain ⟨go31, co31, eo31, gb31, gl31, cl31, HG31⟩ := Kd.R_form HO_7.out (by omega)
     (first | cases eo31 | (injection eo31 with ea_ en_ ec_; (first | subst ea_ | (injection ea_ with ea_; subst ea_)); subst ec_; clear en_))
     have GB31 := Aside0.mk gb31
     have GG31 := Aside0.mk HG31
     clear gb31 gl31 HG31
     obtain ⟨ce31, hcl31, hM31, hcc31, hfr31⟩ := Kd.R_elem HO_7.out z87 (x10_2 : Int) p31 q31
     obtain rfl := k87_openM hM31
     have hx31_0 : wr.cell? ⟨go31, (x10_2 : Int).toNat * 7, none⟩ = some (.int .i64 ((rd_T87 x7_2 x10_2).f0.f0)) := hcc31 0 _ rfl
     have hx31_1 : wr.cell? ⟨go31, (x10_2 : Int).toNat * 7 + 1, none⟩ = some (.int .i64 ((rd_T87 x7_2 x10_2).f0.f1)) := hcc31 1 _ rfl
     have hx31_2 : wr.cell? ⟨go31, (x10_2 : Int).toNat * 7 + 2, none⟩ = some (.int .i64 ((rd_T87 x7_2 x10_2).f0.f2)) := hcc31 2 _ rfl
     have hx31_3 : wr.cell? ⟨go31, (x10_2 : Int).toNat * 7 + 3, none⟩ = some (.int .i64 ((rd_T87 x7_2 x10_2).f0.f3)) := hcc31 3 _ rfl
     have hx31_4 : wr.cell? ⟨go31, (x10_2 : Int).toNat * 7 + 4, none⟩ = some (.int .i64 ((rd_T87 x7_2 x10_2).f0.f4)) := hcc31 4 _ rfl
     have hx31_5 : wr.cell? ⟨go31, (x10_2 : Int).toNat * 7 + 5, none⟩ = some (.int .i64 ((rd_T87 x7_2 x10_2).f0.f5)) := hcc31 5 _ rfl
     have hx31_6 : wr.cell? ⟨go31, (x10_2 : Int).toNat * 7 + 6, none⟩ = some (.bool ((rd_T87 x7_2 x10_2).f1)) := hcc31 6 _ rfl
     have hf31_0 : wr.frozen? ⟨go31, (x10_2 : Int).toNat * 7, none⟩ = false := hfr31 0
     have hf31_1 : wr.frozen? ⟨go31, (x10_2 : Int).toNat * 7 + 1, none⟩ = false := hfr31 1
     have hf31_2 : wr.frozen? ⟨go31, (x10_2 : Int).toNat * 7 + 2, none⟩ = false := hfr31 2
     have hf31_3 : wr.frozen? ⟨go31, (x10_2 : Int).toNat * 7 + 3, none⟩ = false := hfr31 3
     have hf31_4 : wr.frozen? ⟨go31, (x10_2 : Int).toNat * 7 + 4, none⟩ = false := hfr31 4
     have hf31_5 : wr.frozen? ⟨go31, (x10_2 : Int).toNat * 7 + 5, none⟩ = false := hfr31 5
     have hf31_6 : wr.frozen? ⟨go31, (x10_2 : Int).toNat * 7 + 6, none⟩ = false := hfr31 6
     clear hcl31 hcc31 hfr31 hM31
     replace p31 := eq_true p31
     replace q31 := eq_true q31
     have HX34 := Aside0.mk (show Kd.R k87 87 wr w.heap.size (fun k_ => some k_ ≠ (.slice (some ad189) t186.length co33 : Value).ownBlock) (.slice (some ⟨go31, 0, none⟩) x7_2.length co31) x7_2 from (by (with_reducible repeat (first | apply Kd.R_alloc | apply Kd.R_drewN | apply Kd.R_drew)); exact HO_7.out))
     obtain ⟨ce34, hcl34, hM34, hcc34, hfr34⟩ := Kd.R_elem HX34.out z87 (x10_2 : Int) (of_decide_eq_true (by first | (with_reducible assumption) | assumption)) (by have h_ : (x10_2 : Int) < ((x7_2.length : Int) : Int) := of_decide_eq_true (by first | (with_reducible assumption) | assumption); first | exact h_ | (have e_ := (Kd.R_reads' HO_7.out).1; omega) | simpa using h_)
     obtain rfl := k87_openM hM34
     have HP34 := Kd.R_seg HX34.out (x10_2 : Int) (of_decide_eq_true (by first | (with_reducible assumption) | assumption)) (by have h_ : (x10_2 : Int) < ((x7_2.length : Int) : Int) := of_decide_eq_true (by first | (with_reducible assumption) | assumption); first | exact h_ | (have e_ := (Kd.R_reads' HO_7.out).1; omega) | simpa using h_) (seg := [.int .i64 ((rd_T87 t186 x10_2).f0.f0), .int .i64 ((rd_T87 t186 x10_2).f0.f1), .int .i64 ((rd_T87 t186 x10_2).f0.f2), .int .i64 ((rd_T87 t186 x10_2).f0.f3), .int .i64 ((rd_T87 t186 x10_2).f0.f4), .int .i64 ((rd_T87 t186 x10_2).f0.f5), .bool ((rd_T87 t186 x10_2).f1)]) (j := 0) hcl34 hcc34 (show 7 ≤ 7 from by decide) (x' := (⟨(⟨(rd_T87 t186 x10_2).f0.f0, (rd_T87 t186 x10_2).f0.f1, (rd_T87 t186 x10_2).f0.f2, (rd_T87 t186 x10_2).f0.f3, (rd_T87 t186 x10_2).f0.f4, (rd_T87 t186 x10_2).f0.f5⟩ : S41), (rd_T87 t186 x10_2).f1⟩ : S87)) (k87_mkM _ _ _ (⟨(⟨(rd_T87 t186 x10_2).f0.f0, (rd_T87 t186 x10_2).f0.f1, (rd_T87 t186 x10_2).f0.f2, (rd_T87 t186 x10_2).f0.f3, (rd_T87 t186 x10_2).f0.f4, (rd_T87 t186 x10_2).f0.f5⟩ : S41), (rd_T87 t186 x10_2).f1⟩ : S87) ) (fun _ hk => hk)
     have hx34_0 := hcc34 0 _ rfl
     (try simp only [show (k87).sz = 7 from rfl, Nat.mul_one, Nat.add_zero] at hx34_0)
     have hf34_0 := hfr34 0
     (try simp only [show (k87).sz = 7 from rfl, Nat.mul_one, Nat.add_zero] at hf34_0)
     have hx34_1 := hcc34 1 _ rfl
     (try simp only [show (k87).sz = 7 from rfl, Nat.mul_one, Nat.add_zero] at hx34_1)
     have hf34_1 := hfr34 1
     (try simp only [show (k87).sz = 7 from rfl, Nat.mul_one, Nat.add_zero] at hf34_1)
     have hx34_2 := hcc34 2 _ rfl
     (try simp only [show (k87).sz = 7 from rfl, Nat.mul_one, Nat.add_zero] at hx34_2)
     have hf34_2 := hfr34 2
     (try simp only [show (k87).sz = 7 from rfl, Nat.mul_one, Nat.add_zero] at hf34_2)
     have hx34_3 := hcc34 3 _ rfl
     (try simp only [show (k87).sz = 7 from rfl, Nat.mul_one, Nat.add_zero] at hx34_3)
     have hf34_3 := hfr34 3
     (try simp only [show (k87).sz = 7 from rfl, Nat.mul_one, Nat.add_zero] at hf34_3)
     have hx34_4 := hcc34 4 _ rfl
     (try simp only [show (k87).sz = 7 from rfl, Nat.mul_one, Nat.add_zero] at hx34_4)
     have hf34_4 := hfr34 4
     (try simp only [show (k87).sz = 7 from rfl, Nat.mul_one, Nat.add_zero] at hf34_4)
     have hx34_5 := hcc34 5 _ rfl
     (try simp only [show (k87).sz = 7 from rfl, Nat.mul_one, Nat.add_zero] at hx34_5)
     have hf34_5 := hfr34 5
     (try simp only [show (k87).sz = 7 from rfl, Nat.mul_one, Nat.add_zero] at hf34_5)
     have hx34_6 := hcc34 6 _ rfl
     (try simp only [show (k87).sz = 7 from rfl, Nat.mul_one, Nat.add_zero] at hx34_6)
     have hf34_6 := hfr34 6
     (try simp only [show (k87).sz = 7 from rfl, Nat.mul_one, Nat.add_zero] at hf34_6)
     clear hcl34 hcc34 hfr34 hM34
     go_wp2_with (first | ((with_reducible refine gate_store (t := 87) (p := 47) rfl ?_); refine store_event (t := 87) (p := 47) (v := ?vo_w35) (w1 := (((((((wr.setCell ⟨go31, (x10_2 : Int).toNat * 7, none⟩ (.int .i64 ((rd_T87 t186 x10_2).f0.f0))).setCell ⟨go31, (x10_2 : Int).toNat * 7 + 1, none⟩ (.int .i64 ((rd_T87 t186 x10_2).f0.f1))).setCell ⟨go31, (x10_2 : Int).toNat * 7 + 2, none⟩ (.int .i64 ((rd_T87 t186 x10_2).f0.f2))).setCell ⟨go31, (x10_2 : Int).toNat * 7 + 3, none⟩ (.int .i64 ((rd_T87 t186 x10_2).f0.f3))).setCell ⟨go31, (x10_2 : Int).toNat * 7 + 4, none⟩ (.int .i64 ((rd_T87 t186 x10_2).f0.f4))).setCell ⟨go31, (x10_2 : Int).toNat * 7 + 5, none⟩ (.int .i64 ((rd_T87 t186 x10_2).f0.f5))).setCell ⟨go31, (x10_2 : Int).toNat * 7 + 6, none⟩ (.bool ((rd_T87 t186 x10_2).f1)))) ?hg ?ho ?hn ?hr ?_; (case ho => rfl); (case hg => rfl); (case hn => rfl); (case hr => first | (go_simp; done) | (go_simp; rfl)); intro w35 hw; have hg : wr.grownBy w35 (some go31) := (by rw [hw]; exact HP34.2); have hp_ : Kd.R k87 87 w35 w.heap.size (fun k_ => some k_ ≠ (.slice (some ad189) t186.length co33 : Value).ownBlock) (.slice (some ⟨go31, 0, none⟩) x7_2.length co31) y190 := (by rw [hw, Ny190.out]; exact HP34.1); clear HP34; have n0_ := Aside0.mk (hp_); have n1_ := Aside0.mk (Kd.R_after (v := (.slice (some ⟨go31, 0, none⟩) x7_2.length co31)) (v1 := (.slice (some ⟨go31, 0, none⟩) x7_2.length co31)) (ok := (fun _ => True)) (by (with_reducible repeat (first | apply Kd.R_alloc | apply Kd.R_drewN | apply Kd.R_drew)); exact Kd.R_mono HO_9.out (fun _ hk => ⟨trivial, hk⟩)) hg (.inl rfl)); have n2_ := Aside0.mk (blk_grown (g := gb177) (o := .cells #[.int .i64 a1_0, .int .i64 a1_1, .int .i64 a1_2, .int .i64 a1_3, .int .i64 a1_4, .int .i64 a1_5] 41 (0, 0)) (by (with_reducible repeat (first | refine blk_drewN ?_ _ | refine blk_drew ?_ | refine blk_alloc ?_ _)); exact BK177.out) hg (Kd.R_ne HO_7.out BK177.out (by decide))); have n3_ := Aside0.mk ((by rw [hw]; exact below_set (below_set (below_set (below_set (below_set (below_set (below_set (HB.out) GB31.out) GB31.out) GB31.out) GB31.out) GB31.out) GB31.out) GB31.out : Below w.heap.size w w35)); clear HO_7; clear HO_9; clear BK177; clear HB; have HO_7 := n0_; have HO_9 := n1_; have BK177 := n2_; have HB := n3_; clear n0_ n1_ n2_ n3_; clear hg hw hp_))
     go_roundg k2
     case measure => have := HK1.out; have := HK2.out; omega
     case rel => exact ⟨(y190), (wrap64 (x10_2 + 1)), (by first | rfl | (simp; done) | (simp [*]; done)), H', ⟨by have := HK1.out; have := HK2.out; omega⟩, ⟨by (with_reducible repeat (first | apply Kd.R_alloc | apply Kd.R_drewN | apply Kd.R_drew)); exact HO_7.out⟩, ⟨by (with_reducible repeat (first | apply Kd.R_alloc | apply Kd.R_drewN | apply Kd.R_drew)); exact Kd.R_mono HO_9.out (fun _ hk => hk.2)⟩, ⟨by (with_reducible repeat (first | refine blk_drewN ?_ _ | refine blk_drew ?_ | refine blk_alloc ?_ _)); exact BK177.out⟩, ⟨by repeat (first | (with_reducible first | exact HB.out | apply below_alloc | apply pw_below_drewN | apply below_drew1 | refine below_set ?_ GE177.out) | exact HB.out)⟩⟩

/-! ### flyleaflaw15_Op_of: function 34 -/
mutual
def flyleaflaw15_Op_of.j0 : Nat → List (S41) → Int → Bool → Int → Int → Int → Int → Bool → Int → Int → Int → Int → Int → Int → Option ((List (S41)) × Int)
  | 0, _, _, _, _, _, _, _, _, _, _, _, _, _, _ => none
  | k + 1, x1, x8, x9, x195000, x195001, x195002, x195003, x195004, x195005, x195006, x195007, x195008, x195009, x195010 => if x9 = true then ((flyleafref15_Cut.f k x1 x195001 x195002).bind fun t195 => (some (t195, 0))) else (if x8 = 6 then (flyleaflaw15_Op_of.j1 k x1 (x8 == 6) x195000 x195001 x195002 x195003 x195004 x195005 x195006 x195007 x195008 x195009 x195010) else (flyleaflaw15_Op_of.j1 k x1 (x8 == 7) x195000 x195001 x195002 x195003 x195004 x195005 x195006 x195007 x195008 x195009 x195010))
def flyleaflaw15_Op_of.j1 : Nat → List (S41) → Bool → Int → Int → Int → Int → Bool → Int → Int → Int → Int → Int → Int → Option ((List (S41)) × Int)
  | 0, _, _, _, _, _, _, _, _, _, _, _, _, _ => none
  | k + 1, x1, x18, x195000, x195001, x195002, x195003, x195004, x195005, x195006, x195007, x195008, x195009, x195010 => if x18 = true then ((flyleafref15_Protect.f k x1 x195001 x195002 x195003).bind fun bt198 => (some (bt198.1, bt198.2))) else ((flyleafref15_Add.f k x1 x195005 x195006 x195007 x195008 x195009 x195010).bind fun bt202 => (some (bt202.1, bt202.2)))
end
def flyleaflaw15_Op_of.f (k : Nat) (a0_0 : Int) (a0_1 : Int) (a0_2 : Int) (a0_3 : Int) (a0_4 : Bool) (a0_5 : Int) (a0_6 : Int) (a0_7 : Int) (a0_8 : Int) (a0_9 : Int) (a0_10 : Int) (l1 : List (S41)) : Option ((List (S41)) × Int) := if (Go.bits .and .i64 a0_0 7) = 4 then (flyleaflaw15_Op_of.j0 k l1 (Go.bits .and .i64 a0_0 7) ((Go.bits .and .i64 a0_0 7) == 4) a0_0 a0_1 a0_2 a0_3 a0_4 a0_5 a0_6 a0_7 a0_8 a0_9 a0_10) else (flyleaflaw15_Op_of.j0 k l1 (Go.bits .and .i64 a0_0 7) ((Go.bits .and .i64 a0_0 7) == 5) a0_0 a0_1 a0_2 a0_3 a0_4 a0_5 a0_6 a0_7 a0_8 a0_9 a0_10)
theorem flyleaflaw15_Op_of.mono_l : ∀ k, (∀ y0 y1 y2 y3 y4 y5 y6 y7 y8 y9 y10 y11 y12 y13, LeO (flyleaflaw15_Op_of.j0 k y0 y1 y2 y3 y4 y5 y6 y7 y8 y9 y10 y11 y12 y13) (flyleaflaw15_Op_of.j0 (k + 1) y0 y1 y2 y3 y4 y5 y6 y7 y8 y9 y10 y11 y12 y13)) ∧ (∀ y0 y1 y2 y3 y4 y5 y6 y7 y8 y9 y10 y11 y12, LeO (flyleaflaw15_Op_of.j1 k y0 y1 y2 y3 y4 y5 y6 y7 y8 y9 y10 y11 y12) (flyleaflaw15_Op_of.j1 (k + 1) y0 y1 y2 y3 y4 y5 y6 y7 y8 y9 y10 y11 y12))
  | 0 => ⟨fun _ _ _ _ _ _ _ _ _ _ _ _ _ _ r h => by simp [flyleaflaw15_Op_of.j0] at h, fun _ _ _ _ _ _ _ _ _ _ _ _ _ r h => by simp [flyleaflaw15_Op_of.j1] at h⟩
  | k + 1 => by
    obtain ⟨ih0, ih1⟩ := flyleaflaw15_Op_of.mono_l k
    refine ⟨?_, ?_⟩
    · intro y0 y1 y2 y3 y4 y5 y6 y7 y8 y9 y10 y11 y12 y13
      unfold flyleaflaw15_Op_of.j0
      repeat' first
      | (with_reducible exact ih0 _ _ _ _ _ _ _ _ _ _ _ _ _ _)
      | (with_reducible exact ih1 _ _ _ _ _ _ _ _ _ _ _ _ _)
      | (with_reducible exact flyleafref15_Add.mono _ _ _ _ _ _ _ _)
      | (with_reducible exact flyleafref15_Cut.mono _ _ _ _)
      | (with_reducible exact flyleafref15_Protect.mono _ _ _ _ _)
      | (with_reducible exact LeO.refl _)
      | (with_reducible exact LeO.none _)
      | (with_reducible refine LeO.ite ?_ ?_)
      | (with_reducible refine LeO.bind ?_ (fun _ => ?_))
      | exact ih0 _ _ _ _ _ _ _ _ _ _ _ _ _ _
      | exact ih1 _ _ _ _ _ _ _ _ _ _ _ _ _
      | exact flyleafref15_Add.mono _ _ _ _ _ _ _ _
      | exact flyleafref15_Cut.mono _ _ _ _
      | exact flyleafref15_Protect.mono _ _ _ _ _
      | exact LeO.none _
      | refine LeO.ite ?_ ?_
      | refine LeO.bind ?_ (fun _ => ?_)
    · intro y0 y1 y2 y3 y4 y5 y6 y7 y8 y9 y10 y11 y12
      unfold flyleaflaw15_Op_of.j1
      repeat' first
      | (with_reducible exact ih0 _ _ _ _ _ _ _ _ _ _ _ _ _ _)
      | (with_reducible exact ih1 _ _ _ _ _ _ _ _ _ _ _ _ _)
      | (with_reducible exact flyleafref15_Add.mono _ _ _ _ _ _ _ _)
      | (with_reducible exact flyleafref15_Cut.mono _ _ _ _)
      | (with_reducible exact flyleafref15_Protect.mono _ _ _ _ _)
      | (with_reducible exact LeO.refl _)
      | (with_reducible exact LeO.none _)
      | (with_reducible refine LeO.ite ?_ ?_)
      | (with_reducible refine LeO.bind ?_ (fun _ => ?_))
      | exact ih0 _ _ _ _ _ _ _ _ _ _ _ _ _ _
      | exact ih1 _ _ _ _ _ _ _ _ _ _ _ _ _
      | exact flyleafref15_Add.mono _ _ _ _ _ _ _ _
      | exact flyleafref15_Cut.mono _ _ _ _
      | exact flyleafref15_Protect.mono _ _ _ _ _
      | exact LeO.none _
      | refine LeO.ite ?_ ?_
      | refine LeO.bind ?_ (fun _ => ?_)
theorem flyleaflaw15_Op_of.mono : ∀ a0 a1 a2 a3 a4 a5 a6 a7 a8 a9 a10 a11 k, LeO (flyleaflaw15_Op_of.f k a0 a1 a2 a3 a4 a5 a6 a7 a8 a9 a10 a11) (flyleaflaw15_Op_of.f (k + 1) a0 a1 a2 a3 a4 a5 a6 a7 a8 a9 a10 a11) := by
  intro a0 a1 a2 a3 a4 a5 a6 a7 a8 a9 a10 a11 k
  obtain ⟨ih0, ih1⟩ := flyleaflaw15_Op_of.mono_l k
  unfold flyleaflaw15_Op_of.f
  repeat' first
      | (with_reducible exact ih0 _ _ _ _ _ _ _ _ _ _ _ _ _ _)
      | (with_reducible exact ih1 _ _ _ _ _ _ _ _ _ _ _ _ _)
      | (with_reducible exact flyleafref15_Add.mono _ _ _ _ _ _ _ _)
      | (with_reducible exact flyleafref15_Cut.mono _ _ _ _)
      | (with_reducible exact flyleafref15_Protect.mono _ _ _ _ _)
      | (with_reducible exact LeO.refl _)
      | (with_reducible exact LeO.none _)
      | (with_reducible refine LeO.ite ?_ ?_)
      | (with_reducible refine LeO.bind ?_ (fun _ => ?_))
      | exact ih0 _ _ _ _ _ _ _ _ _ _ _ _ _ _
      | exact ih1 _ _ _ _ _ _ _ _ _ _ _ _ _
      | exact flyleafref15_Add.mono _ _ _ _ _ _ _ _
      | exact flyleafref15_Cut.mono _ _ _ _
      | exact flyleafref15_Protect.mono _ _ _ _ _
      | exact LeO.none _
      | refine LeO.ite ?_ ?_
      | refine LeO.bind ?_ (fun _ => ?_)
set_option maxHeartbeats 8000000 in
set_option maxRecDepth 100000 in
theorem flyleaflaw15_Op_of.calls (k : Nat) (a0_0 : Int) (a0_1 : Int) (a0_2 : Int) (a0_3 : Int) (a0_4 : Bool) (a0_5 : Int) (a0_6 : Int) (a0_7 : Int) (a0_8 : Int) (a0_9 : Int) (a0_10 : Int) (A1 : Option Addr) (c1 : Nat) (l1 : List (S41)) (r1 : List (S41)) (r2 : Int) (w : World) (hr1 : Kd.C k41 w A1 l1.length l1) (hc1 : l1.length ≤ c1) (h : flyleaflaw15_Op_of.f k a0_0 a0_1 a0_2 a0_3 a0_4 a0_5 a0_6 a0_7 a0_8 a0_9 a0_10 l1 = some (r1, r2)) :
    Calls Try.prog 34 #[.agg #[.int .i64 a0_0, .int .i64 a0_1, .int .i64 a0_2, .int .i64 a0_3, .bool a0_4, .int .i64 a0_5, .int .i64 a0_6, .int .i64 a0_7, .int .i64 a0_8, .int .i64 a0_9, .int .i64 a0_10], .slice A1 l1.length c1] w fun e w' => ∃ v0_ : Value, e = .returned (.tuple #[v0_, .int .i64 r2]) ∧ Kd.R k41 41 w' w.heap.size (fun _ => True) v0_ r1 ∧ Below w.heap.size w w' := by
 have hu69 := Try.underlying69
 have hu41 := Try.underlying41
 have HR1 := Aside0.mk hr1
 have HC1 := Aside0.mk hc1
 clear hr1 hc1
 have HB := Aside0.mk (Below.refl w.heap.size w)
 have H : (if (Go.bits .and .i64 a0_0 7) = 4 then (flyleaflaw15_Op_of.j0 k l1 (Go.bits .and .i64 a0_0 7) ((Go.bits .and .i64 a0_0 7) == 4) a0_0 a0_1 a0_2 a0_3 a0_4 a0_5 a0_6 a0_7 a0_8 a0_9 a0_10) else (flyleaflaw15_Op_of.j0 k l1 (Go.bits .and .i64 a0_0 7) ((Go.bits .and .i64 a0_0 7) == 5) a0_0 a0_1 a0_2 a0_3 a0_4 a0_5 a0_6 a0_7 a0_8 a0_9 a0_10)) = some (r1, r2) := h
 clear h
 have HC3 := Aside0.mk H
 clear H
 go_enter Try.func34, Try.ntmps34
 go_upto_if 9 with (first | ((with_reducible refine gate_dst (N := 2) rfl ?_); refine box_event ?hg (N := 2) ?hd (cs := #[.int .i64 a0_0, .int .i64 a0_1, .int .i64 a0_2, .int .i64 a0_3, .bool a0_4, .int .i64 a0_5, .int .i64 a0_6, .int .i64 a0_7, .int .i64 a0_8, .int .i64 a0_9, .int .i64 a0_10]) (t := 69) ?hr ?_; (case hd => rfl); (case hg => rfl); (case hr => first | (go_simp; done) | (go_simp; rfl)); intro gb194 hg w4 hbox hb; have n0_ := Aside0.mk (below_step (by repeat (first | (with_reducible first | exact HB.out | apply below_alloc | apply pw_below_drewN | apply below_drew1) | exact HB.out)) hb); have n1_ := Aside0.mk (hbox); have n2_ := Aside0.mk ((by rw [hg]; exact (below_size (by repeat (first | (with_reducible first | exact HB.out | apply below_alloc | apply pw_below_drewN | apply below_drew1) | exact HB.out))) : w.heap.size ≤ gb194)); have n3_ := Aside0.mk ((by rw [hg]; exact (below_size (by repeat (first | (with_reducible first | exact HB.out | apply below_alloc | apply pw_below_drewN | apply below_drew1) | exact HB.out))) : w.heap.size ≤ gb194)); clear HB; have HB := n0_; have BK194 := n1_; have GW194 := n2_; have GE194 := n3_; clear n0_ n1_ n2_ n3_; clear hb hbox hg; have hcz5_0 : w4.cell? ⟨gb194, 0, none⟩ = some (.int .i64 a0_0) := (blk_cell BK194.out 0).trans rfl; have hcz5_1 : w4.cell? ⟨gb194, 1, none⟩ = some (.int .i64 a0_1) := (blk_cell BK194.out 1).trans rfl; have hcz5_2 : w4.cell? ⟨gb194, 2, none⟩ = some (.int .i64 a0_2) := (blk_cell BK194.out 2).trans rfl; have hcz5_3 : w4.cell? ⟨gb194, 3, none⟩ = some (.int .i64 a0_3) := (blk_cell BK194.out 3).trans rfl; have hcz5_4 : w4.cell? ⟨gb194, 4, none⟩ = some (.bool a0_4) := (blk_cell BK194.out 4).trans rfl; have hcz5_5 : w4.cell? ⟨gb194, 5, none⟩ = some (.int .i64 a0_5) := (blk_cell BK194.out 5).trans rfl; have hcz5_6 : w4.cell? ⟨gb194, 6, none⟩ = some (.int .i64 a0_6) := (blk_cell BK194.out 6).trans rfl; have hcz5_7 : w4.cell? ⟨gb194, 7, none⟩ = some (.int .i64 a0_7) := (blk_cell BK194.out 7).trans rfl; have hcz5_8 : w4.cell? ⟨gb194, 8, none⟩ = some (.int .i64 a0_8) := (blk_cell BK194.out 8).trans rfl; have hcz5_9 : w4.cell? ⟨gb194, 9, none⟩ = some (.int .i64 a0_9) := (blk_cell BK194.out 9).trans rfl; have hcz5_10 : w4.cell? ⟨gb194, 10, none⟩ = some (.int .i64 a0_10) := (blk_cell BK194.out 10).trans rfl; have hfz5_0 := blk_frozen BK194.out 0; have hfz5_1 := blk_frozen BK194.out 1; have hfz5_2 := blk_frozen BK194.out 2; have hfz5_3 := blk_frozen BK194.out 3; have hfz5_4 := blk_frozen BK194.out 4; have hfz5_5 := blk_frozen BK194.out 5; have hfz5_6 := blk_frozen BK194.out 6; have hfz5_7 := blk_frozen BK194.out 7; have hfz5_8 := blk_frozen BK194.out 8; have hfz5_9 := blk_frozen BK194.out 9; have hfz5_10 := blk_frozen BK194.out 10))
 (try simp only [Act.put, List.setIfInBounds_toArray, List.set_cons_zero, List.set_cons_succ])
 go_cut [9] (fun v9 wc => ∃ (kq : Nat) (x9_2 : Bool), v9 = .bool x9_2 ∧ Aside0 (flyleaflaw15_Op_of.j0 kq l1 (Go.bits .and .i64 a0_0 7) x9_2 a0_0 a0_1 a0_2 a0_3 a0_4 a0_5 a0_6 a0_7 a0_8 a0_9 a0_10 = some (r1, r2)) ∧ Aside0 (kq ≤ k) ∧ Aside0 (wc.heap[gb194]? = some (.cells #[.int .i64 a0_0, .int .i64 a0_1, .int .i64 a0_2, .int .i64 a0_3, .bool a0_4, .int .i64 a0_5, .int .i64 a0_6, .int .i64 a0_7, .int .i64 a0_8, .int .i64 a0_9, .int .i64 a0_10] 69 (0, 0))) ∧ Aside0 (Below w.heap.size w wc))
 case first =>
  have H := HC3.out
  clear HC3
  by_cases c6 : (Go.bits .and .i64 a0_0 7) = 4
  rotate_left
  · rw [if_neg c6] at H
    have c6b0 : ((Go.bits .and .i64 a0_0 7) == 4) = false := beq_eq_false_iff_ne.mpr c6
    have c6b1 : ((Go.bits .and .i64 a0_0 7) != 4) = true := bne_iff_ne.mpr c6
    (first | rw [c6b0] | (simp only [i64_w, i32_w]; rw [c6b0]) | skip)
    have H' := Aside0.mk H
    clear H
    go_wp2
    go_meet
    case rel => exact ⟨_, (((Go.bits .and .i64 a0_0 7) == 5)), (by first | rfl | (simp; done) | (simp [*]; done)), H', ⟨by first | omega | exact Nat.le_refl _⟩, ⟨by (with_reducible repeat (first | refine blk_drewN ?_ _ | refine blk_drew ?_ | refine blk_alloc ?_ _)); exact BK194.out⟩, ⟨by repeat (first | (with_reducible first | exact HB.out | apply below_alloc | apply pw_below_drewN | apply below_drew1 | refine below_set ?_ GE194.out) | exact HB.out)⟩⟩
  rw [if_pos c6] at H
  have c6b0 : ((Go.bits .and .i64 a0_0 7) == 4) = true := beq_iff_eq.mpr c6
  have c6b1 : ((Go.bits .and .i64 a0_0 7) != 4) = false := bne_eq_false_iff_eq.mpr c6
  clear c6
  (first | rw [c6b0] | (simp only [i64_w, i32_w]; rw [c6b0]) | skip)
  have H' := Aside0.mk H
  clear H
  go_wp2
  go_meet
  case rel => exact ⟨_, (((Go.bits .and .i64 a0_0 7) == 4)), (by first | rfl | (simp; done) | (simp [*]; done)), H', ⟨by first | omega | exact Nat.le_refl _⟩, ⟨by (with_reducible repeat (first | refine blk_drewN ?_ _ | refine blk_drew ?_ | refine blk_alloc ?_ _)); exact BK194.out⟩, ⟨by repeat (first | (with_reducible first | exact HB.out | apply below_alloc | apply pw_below_drewN | apply below_drew1 | refine below_set ?_ GE194.out) | exact HB.out)⟩⟩
 case rest =>
  clear HC3
  try clear c1
  try clear p2
  try clear c3
  try clear c6
  try clear c6b0
  try clear c6b1
  try clear hcz5_0
  try clear hcz5_1
  try clear hcz5_10
  try clear hcz5_2
  try clear hcz5_3
  try clear hcz5_4
  try clear hcz5_5
  try clear hcz5_6
  try clear hcz5_7
  try clear hcz5_8
  try clear hcz5_9
  try clear hfz5_0
  try clear hfz5_1
  try clear hfz5_10
  try clear hfz5_2
  try clear hfz5_3
  try clear hfz5_4
  try clear hfz5_5
  try clear hfz5_6
  try clear hfz5_7
  try clear hfz5_8
  try clear hfz5_9
  obtain ⟨kq, x9_2, rfl, HA, HJ2, BK194, HB⟩ := hcut
  cases kq with
  | zero => exact absurd HA.out (by simp [flyleaflaw15_Op_of.j0])
  | succ kj2 =>
   have H := HA.out
   clear HA
   simp only [flyleaflaw15_Op_of.j0] at H
   by_cases c7 : x9_2 = true
   · subst c7
     have H1 : ((flyleafref15_Cut.f kj2 l1 a0_1 a0_2).bind fun t195 => (some (t195, 0))) = some (r1, r2) := by rw [if_pos rfl] at H; exact H
     clear H
     have H := H1
     clear H1
     replace H := Option.bind_eq_some_iff.mp H
     obtain ⟨t195, A80, H⟩ := H
     replace H : (some (t195, 0)) = some (r1, r2) := H
     have A8 := Aside0.mk A80
     clear A80
     simp only [Option.some.injEq, Prod.mk.injEq] at H
     obtain ⟨rfl, rfl⟩ := H
     have hcz9_0 : wc.cell? ⟨gb194, 0, none⟩ = some (.int .i64 a0_0) := (blk_cell BK194.out 0).trans rfl
     have hcz9_1 : wc.cell? ⟨gb194, 1, none⟩ = some (.int .i64 a0_1) := (blk_cell BK194.out 1).trans rfl
     have hcz9_2 : wc.cell? ⟨gb194, 2, none⟩ = some (.int .i64 a0_2) := (blk_cell BK194.out 2).trans rfl
     have hcz9_3 : wc.cell? ⟨gb194, 3, none⟩ = some (.int .i64 a0_3) := (blk_cell BK194.out 3).trans rfl
     have hcz9_4 : wc.cell? ⟨gb194, 4, none⟩ = some (.bool a0_4) := (blk_cell BK194.out 4).trans rfl
     have hcz9_5 : wc.cell? ⟨gb194, 5, none⟩ = some (.int .i64 a0_5) := (blk_cell BK194.out 5).trans rfl
     have hcz9_6 : wc.cell? ⟨gb194, 6, none⟩ = some (.int .i64 a0_6) := (blk_cell BK194.out 6).trans rfl
     have hcz9_7 : wc.cell? ⟨gb194, 7, none⟩ = some (.int .i64 a0_7) := (blk_cell BK194.out 7).trans rfl
     have hcz9_8 : wc.cell? ⟨gb194, 8, none⟩ = some (.int .i64 a0_8) := (blk_cell BK194.out 8).trans rfl
     have hcz9_9 : wc.cell? ⟨gb194, 9, none⟩ = some (.int .i64 a0_9) := (blk_cell BK194.out 9).trans rfl
     have hcz9_10 : wc.cell? ⟨gb194, 10, none⟩ = some (.int .i64 a0_10) := (blk_cell BK194.out 10).trans rfl
     have hfz9_0 := blk_frozen BK194.out 0
     have hfz9_1 := blk_frozen BK194.out 1
     have hfz9_2 := blk_frozen BK194.out 2
     have hfz9_3 := blk_frozen BK194.out 3
     have hfz9_4 := blk_frozen BK194.out 4
     have hfz9_5 := blk_frozen BK194.out 5
     have hfz9_6 := blk_frozen BK194.out 6
     have hfz9_7 := blk_frozen BK194.out 7
     have hfz9_8 := blk_frozen BK194.out 8
     have hfz9_9 := blk_frozen BK194.out 9
     have hfz9_10 := blk_frozen BK194.out 10
     go_wp2_with (first | ((with_reducible refine gate_callee (f := 84) rfl ?_); refine goesL_ (some 17) rfl rfl Try.func84 (by kernel_rfl) rfl #[.slice A1 l1.length c1, .int .i64 a0_1, .int .i64 a0_2] rfl (by (try simp only [List.map_toArray, List.map_cons, List.map_nil]); first | done | rfl | (simp only [List.length_drop, List.length_take]; rfl)) ?_; (with_reducible refine (flyleafref15_Cut.calls kj2 _ _ l1 a0_1 a0_2 t195 _ ?side1 ?side2 A8.out).mono ?_); (case side1 => repeat (first | exact (Kd.C_below HR1.out HB.out) | (with_reducible refine Kd.C_alloc ?_ _) | (with_reducible refine Kd.C_drewN ?_ _) | (with_reducible refine Kd.C_drew ?_))); (case side2 => exact HC1.out); rintro e w10 ⟨v196, rfl, ho0, hb⟩; refine ⟨_, rfl, ?_⟩; have n0_ := Aside0.mk (Kd.R_lower ho0 (below_size (by repeat (first | (with_reducible first | exact HB.out | apply below_alloc | apply pw_below_drewN | apply below_drew1 | refine below_set ?_ GE194.out) | exact HB.out)))); have n1_ := Aside0.mk (blk_below (g := gb194) (o := .cells #[.int .i64 a0_0, .int .i64 a0_1, .int .i64 a0_2, .int .i64 a0_3, .bool a0_4, .int .i64 a0_5, .int .i64 a0_6, .int .i64 a0_7, .int .i64 a0_8, .int .i64 a0_9, .int .i64 a0_10] 69 (0, 0)) (by (with_reducible repeat (first | refine blk_drewN ?_ _ | refine blk_drew ?_ | refine blk_alloc ?_ _)); exact BK194.out) hb); have n2_ := Aside0.mk (below_step (by repeat (first | (with_reducible first | exact HB.out | apply below_alloc | apply pw_below_drewN | apply below_drew1 | refine below_set ?_ GE194.out) | exact HB.out)) hb); clear BK194; clear HB; have HO197 := n0_; have BK194 := n1_; have HB := n2_; clear n0_ n1_ n2_; (try clear hb); (try clear hb2); (try clear hk); (try clear hi); (try clear ho0)))
     go_ret2
     exact ⟨_, by first | rfl | (simp [errW_none, errW_some] <;> rfl) | (simp [*, errW_none, errW_some] <;> rfl), by (with_reducible repeat (first | apply Kd.R_alloc | apply Kd.R_drewN | apply Kd.R_drew)); exact HO197.out, by repeat (first | (with_reducible first | exact HB.out | apply below_alloc | apply pw_below_drewN | apply below_drew1 | refine below_set ?_ GE194.out) | exact HB.out)⟩
   replace c7 := Bool.eq_false_iff.mpr c7
   subst c7
   have H1 : (if (Go.bits .and .i64 a0_0 7) = 6 then (flyleaflaw15_Op_of.j1 kj2 l1 ((Go.bits .and .i64 a0_0 7) == 6) a0_0 a0_1 a0_2 a0_3 a0_4 a0_5 a0_6 a0_7 a0_8 a0_9 a0_10) else (flyleaflaw15_Op_of.j1 kj2 l1 ((Go.bits .and .i64 a0_0 7) == 7) a0_0 a0_1 a0_2 a0_3 a0_4 a0_5 a0_6 a0_7 a0_8 a0_9 a0_10)) = some (r1, r2) := by rw [if_neg (show ¬ (false = true) by decide)] at H; exact H
   clear H
   have H := H1
   clear H1
   have HC11 := Aside0.mk H
   clear H
   go_upto_if 18 with (fail)
   go_cut [18] (fun v18 wc => ∃ (kq : Nat) (x18_10 : Bool), v18 = .bool x18_10 ∧ Aside0 (flyleaflaw15_Op_of.j1 kq l1 x18_10 a0_0 a0_1 a0_2 a0_3 a0_4 a0_5 a0_6 a0_7 a0_8 a0_9 a0_10 = some (r1, r2)) ∧ Aside0 (kq ≤ kj2) ∧ Aside0 (wc.heap[gb194]? = some (.cells #[.int .i64 a0_0, .int .i64 a0_1, .int .i64 a0_2, .int .i64 a0_3, .bool a0_4, .int .i64 a0_5, .int .i64 a0_6, .int .i64 a0_7, .int .i64 a0_8, .int .i64 a0_9, .int .i64 a0_10] 69 (0, 0))) ∧ Aside0 (Below w.heap.size w wc))
   case first =>
    have H := HC11.out
    clear HC11
    by_cases c12 : (Go.bits .and .i64 a0_0 7) = 6
    rotate_left
    · rw [if_neg c12] at H
      have c12b0 : ((Go.bits .and .i64 a0_0 7) == 6) = false := beq_eq_false_iff_ne.mpr c12
      have c12b1 : ((Go.bits .and .i64 a0_0 7) != 6) = true := bne_iff_ne.mpr c12
      (first | rw [c12b0] | (simp only [i64_w, i32_w]; rw [c12b0]) | skip)
      have H' := Aside0.mk H
      clear H
      go_wp2
      go_meet
      case rel => exact ⟨_, (((Go.bits .and .i64 a0_0 7) == 7)), (by first | rfl | (simp; done) | (simp [*]; done)), H', ⟨by have := HJ2.out; first | omega | exact Nat.le_refl _⟩, ⟨by (with_reducible repeat (first | refine blk_drewN ?_ _ | refine blk_drew ?_ | refine blk_alloc ?_ _)); exact BK194.out⟩, ⟨by repeat (first | (with_reducible first | exact HB.out | apply below_alloc | apply pw_below_drewN | apply below_drew1 | refine below_set ?_ GE194.out) | exact HB.out)⟩⟩
    rw [if_pos c12] at H
    have c12b0 : ((Go.bits .and .i64 a0_0 7) == 6) = true := beq_iff_eq.mpr c12
    have c12b1 : ((Go.bits .and .i64 a0_0 7) != 6) = false := bne_eq_false_iff_eq.mpr c12
    clear c12
    (first | rw [c12b0] | (simp only [i64_w, i32_w]; rw [c12b0]) | skip)
    have H' := Aside0.mk H
    clear H
    go_wp2
    go_meet
    case rel => exact ⟨_, (((Go.bits .and .i64 a0_0 7) == 6)), (by first | rfl | (simp; done) | (simp [*]; done)), H', ⟨by have := HJ2.out; first | omega | exact Nat.le_refl _⟩, ⟨by (with_reducible repeat (first | refine blk_drewN ?_ _ | refine blk_drew ?_ | refine blk_alloc ?_ _)); exact BK194.out⟩, ⟨by repeat (first | (with_reducible first | exact HB.out | apply below_alloc | apply pw_below_drewN | apply below_drew1 | refine below_set ?_ GE194.out) | exact HB.out)⟩⟩
   case rest =>
    clear HC11
    try clear c1
    try clear p2
    try clear c3
    try clear c6
    try clear c6b0
    try clear c6b1
    try clear c7
    try clear c8
    try clear c12
    try clear c12b0
    try clear c12b1
    try clear hcz5_0
    try clear hcz5_1
    try clear hcz5_10
    try clear hcz5_2
    try clear hcz5_3
    try clear hcz5_4
    try clear hcz5_5
    try clear hcz5_6
    try clear hcz5_7
    try clear hcz5_8
    try clear hcz5_9
    try clear hcz9_0
    try clear hcz9_1
    try clear hcz9_10
    try clear hcz9_2
    try clear hcz9_3
    try clear hcz9_4
    try clear hcz9_5
    try clear hcz9_6
    try clear hcz9_7
    try clear hcz9_8
    try clear hcz9_9
    try clear hfz5_0
    try clear hfz5_1
    try clear hfz5_10
    try clear hfz5_2
    try clear hfz5_3
    try clear hfz5_4
    try clear hfz5_5
    try clear hfz5_6
    try clear hfz5_7
    try clear hfz5_8
    try clear hfz5_9
    try clear hfz9_0
    try clear hfz9_1
    try clear hfz9_10
    try clear hfz9_2
    try clear hfz9_3
    try clear hfz9_4
    try clear hfz9_5
    try clear hfz9_6
    try clear hfz9_7
    try clear hfz9_8
    try clear hfz9_9
    try clear p2
    obtain ⟨kq, x18_10, rfl, HA, HJ10, BK194, HB⟩ := hcut
    cases kq with
    | zero => exact absurd HA.out (by simp [flyleaflaw15_Op_of.j1])
    | succ kj10 =>
     have H := HA.out
     clear HA
     simp only [flyleaflaw15_Op_of.j1] at H
     by_cases c13 : x18_10 = true
     · subst c13
       have H1 : ((flyleafref15_Protect.f kj10 l1 a0_1 a0_2 a0_3).bind fun bt198 => (some (bt198.1, bt198.2))) = some (r1, r2) := by rw [if_pos rfl] at H; exact H
       clear H
       have H := H1
       clear H1
       replace H := Option.bind_eq_some_iff.mp H
       obtain ⟨⟨t198, t199⟩, A140, H⟩ := H
       replace H : (some (t198, t199)) = some (r1, r2) := H
       have A14 := Aside0.mk A140
       clear A140
       simp only [Option.some.injEq, Prod.mk.injEq] at H
       obtain ⟨rfl, rfl⟩ := H
       have hcz15_0 : wc.cell? ⟨gb194, 0, none⟩ = some (.int .i64 a0_0) := (blk_cell BK194.out 0).trans rfl
       have hcz15_1 : wc.cell? ⟨gb194, 1, none⟩ = some (.int .i64 a0_1) := (blk_cell BK194.out 1).trans rfl
       have hcz15_2 : wc.cell? ⟨gb194, 2, none⟩ = some (.int .i64 a0_2) := (blk_cell BK194.out 2).trans rfl
       have hcz15_3 : wc.cell? ⟨gb194, 3, none⟩ = some (.int .i64 a0_3) := (blk_cell BK194.out 3).trans rfl
       have hcz15_4 : wc.cell? ⟨gb194, 4, none⟩ = some (.bool a0_4) := (blk_cell BK194.out 4).trans rfl
       have hcz15_5 : wc.cell? ⟨gb194, 5, none⟩ = some (.int .i64 a0_5) := (blk_cell BK194.out 5).trans rfl
       have hcz15_6 : wc.cell? ⟨gb194, 6, none⟩ = some (.int .i64 a0_6) := (blk_cell BK194.out 6).trans rfl
       have hcz15_7 : wc.cell? ⟨gb194, 7, none⟩ = some (.int .i64 a0_7) := (blk_cell BK194.out 7).trans rfl
       have hcz15_8 : wc.cell? ⟨gb194, 8, none⟩ = some (.int .i64 a0_8) := (blk_cell BK194.out 8).trans rfl
       have hcz15_9 : wc.cell? ⟨gb194, 9, none⟩ = some (.int .i64 a0_9) := (blk_cell BK194.out 9).trans rfl
       have hcz15_10 : wc.cell? ⟨gb194, 10, none⟩ = some (.int .i64 a0_10) := (blk_cell BK194.out 10).trans rfl
       have hfz15_0 := blk_frozen BK194.out 0
       have hfz15_1 := blk_frozen BK194.out 1
       have hfz15_2 := blk_frozen BK194.out 2
       have hfz15_3 := blk_frozen BK194.out 3
       have hfz15_4 := blk_frozen BK194.out 4
       have hfz15_5 := blk_frozen BK194.out 5
       have hfz15_6 := blk_frozen BK194.out 6
       have hfz15_7 := blk_frozen BK194.out 7
       have hfz15_8 := blk_frozen BK194.out 8
       have hfz15_9 := blk_frozen BK194.out 9
       have hfz15_10 := blk_frozen BK194.out 10
       go_wp2_with (first | ((with_reducible refine gate_callee (f := 85) rfl ?_); refine goesL_ (some 28) rfl rfl Try.func85 (by kernel_rfl) rfl #[.slice A1 l1.length c1, .int .i64 a0_1, .int .i64 a0_2, .int .i64 a0_3] rfl (by (try simp only [List.map_toArray, List.map_cons, List.map_nil]); first | done | rfl | (simp only [List.length_drop, List.length_take]; rfl)) ?_; (with_reducible refine (flyleafref15_Protect.calls kj10 _ _ l1 a0_1 a0_2 a0_3 t198 t199 _ ?side1 ?side2 A14.out).mono ?_); (case side1 => repeat (first | exact (Kd.C_below HR1.out HB.out) | (with_reducible refine Kd.C_alloc ?_ _) | (with_reducible refine Kd.C_drewN ?_ _) | (with_reducible refine Kd.C_drew ?_))); (case side2 => exact HC1.out); rintro e w16 ⟨v200, rfl, ho0, hb⟩; refine ⟨_, rfl, ?_⟩; have n0_ := Aside0.mk (Kd.R_lower ho0 (below_size (by repeat (first | (with_reducible first | exact HB.out | apply below_alloc | apply pw_below_drewN | apply below_drew1 | refine below_set ?_ GE194.out) | exact HB.out)))); have n1_ := Aside0.mk (blk_below (g := gb194) (o := .cells #[.int .i64 a0_0, .int .i64 a0_1, .int .i64 a0_2, .int .i64 a0_3, .bool a0_4, .int .i64 a0_5, .int .i64 a0_6, .int .i64 a0_7, .int .i64 a0_8, .int .i64 a0_9, .int .i64 a0_10] 69 (0, 0)) (by (with_reducible repeat (first | refine blk_drewN ?_ _ | refine blk_drew ?_ | refine blk_alloc ?_ _)); exact BK194.out) hb); have n2_ := Aside0.mk (below_step (by repeat (first | (with_reducible first | exact HB.out | apply below_alloc | apply pw_below_drewN | apply below_drew1 | refine below_set ?_ GE194.out) | exact HB.out)) hb); clear BK194; clear HB; have HO201 := n0_; have BK194 := n1_; have HB := n2_; clear n0_ n1_ n2_; (try clear hb); (try clear hb2); (try clear hk); (try clear hi); (try clear ho0)))
       go_ret2
       exact ⟨_, by first | rfl | (simp [errW_none, errW_some] <;> rfl) | (simp [*, errW_none, errW_some] <;> rfl), by (with_reducible repeat (first | apply Kd.R_alloc | apply Kd.R_drewN | apply Kd.R_drew)); exact HO201.out, by repeat (first | (with_reducible first | exact HB.out | apply below_alloc | apply pw_below_drewN | apply below_drew1 | refine below_set ?_ GE194.out) | exact HB.out)⟩
     replace c13 := Bool.eq_false_iff.mpr c13
     subst c13
     have H1 : ((flyleafref15_Add.f kj10 l1 a0_5 a0_6 a0_7 a0_8 a0_9 a0_10).bind fun bt202 => (some (bt202.1, bt202.2))) = some (r1, r2) := by rw [if_neg (show ¬ (false = true) by decide)] at H; exact H
     clear H
     have H := H1
     clear H1
     replace H := Option.bind_eq_some_iff.mp H
     obtain ⟨⟨t202, t205⟩, A170, H⟩ := H
     replace H : (some (t202, t205)) = some (r1, r2) := H
     have A17 := Aside0.mk A170
     clear A170
     simp only [Option.some.injEq, Prod.mk.injEq] at H
     obtain ⟨rfl, rfl⟩ := H
     have hcz18_0 : wc.cell? ⟨gb194, 0, none⟩ = some (.int .i64 a0_0) := (blk_cell BK194.out 0).trans rfl
     have hcz18_1 : wc.cell? ⟨gb194, 1, none⟩ = some (.int .i64 a0_1) := (blk_cell BK194.out 1).trans rfl
     have hcz18_2 : wc.cell? ⟨gb194, 2, none⟩ = some (.int .i64 a0_2) := (blk_cell BK194.out 2).trans rfl
     have hcz18_3 : wc.cell? ⟨gb194, 3, none⟩ = some (.int .i64 a0_3) := (blk_cell BK194.out 3).trans rfl
     have hcz18_4 : wc.cell? ⟨gb194, 4, none⟩ = some (.bool a0_4) := (blk_cell BK194.out 4).trans rfl
     have hcz18_5 : wc.cell? ⟨gb194, 5, none⟩ = some (.int .i64 a0_5) := (blk_cell BK194.out 5).trans rfl
     have hcz18_6 : wc.cell? ⟨gb194, 6, none⟩ = some (.int .i64 a0_6) := (blk_cell BK194.out 6).trans rfl
     have hcz18_7 : wc.cell? ⟨gb194, 7, none⟩ = some (.int .i64 a0_7) := (blk_cell BK194.out 7).trans rfl
     have hcz18_8 : wc.cell? ⟨gb194, 8, none⟩ = some (.int .i64 a0_8) := (blk_cell BK194.out 8).trans rfl
     have hcz18_9 : wc.cell? ⟨gb194, 9, none⟩ = some (.int .i64 a0_9) := (blk_cell BK194.out 9).trans rfl
     have hcz18_10 : wc.cell? ⟨gb194, 10, none⟩ = some (.int .i64 a0_10) := (blk_cell BK194.out 10).trans rfl
     have hfz18_0 := blk_frozen BK194.out 0
     have hfz18_1 := blk_frozen BK194.out 1
     have hfz18_2 := blk_frozen BK194.out 2
     have hfz18_3 := blk_frozen BK194.out 3
     have hfz18_4 := blk_frozen BK194.out 4
     have hfz18_5 := blk_frozen BK194.out 5
     have hfz18_6 := blk_frozen BK194.out 6
     have hfz18_7 := blk_frozen BK194.out 7
     have hfz18_8 := blk_frozen BK194.out 8
     have hfz18_9 := blk_frozen BK194.out 9
     have hfz18_10 := blk_frozen BK194.out 10
     go_wp2_with (first | ((with_reducible refine gate_callee (f := 86) rfl ?_); refine goesL_ (some 34) rfl rfl Try.func86 (by kernel_rfl) rfl #[.slice A1 l1.length c1, .agg #[.int .i64 a0_5, .int .i64 a0_6, .int .i64 a0_7, .int .i64 a0_8, .int .i64 a0_9, .int .i64 a0_10]] rfl (by (try simp only [List.map_toArray, List.map_cons, List.map_nil]); first | done | rfl | (simp only [List.length_drop, List.length_take]; rfl)) ?_; (with_reducible refine (flyleafref15_Add.calls kj10 _ _ l1 a0_5 a0_6 a0_7 a0_8 a0_9 a0_10 t202 t205 _ ?side1 ?side2 A17.out).mono ?_); (case side1 => repeat (first | exact (Kd.C_below HR1.out HB.out) | (with_reducible refine Kd.C_alloc ?_ _) | (with_reducible refine Kd.C_drewN ?_ _) | (with_reducible refine Kd.C_drew ?_))); (case side2 => exact HC1.out); rintro e w19 ⟨v203, rfl, ho0, hb⟩; refine ⟨_, rfl, ?_⟩; have n0_ := Aside0.mk (Kd.R_lower ho0 (below_size (by repeat (first | (with_reducible first | exact HB.out | apply below_alloc | apply pw_below_drewN | apply below_drew1 | refine below_set ?_ GE194.out) | exact HB.out)))); have n1_ := Aside0.mk (blk_below (g := gb194) (o := .cells #[.int .i64 a0_0, .int .i64 a0_1, .int .i64 a0_2, .int .i64 a0_3, .bool a0_4, .int .i64 a0_5, .int .i64 a0_6, .int .i64 a0_7, .int .i64 a0_8, .int .i64 a0_9, .int .i64 a0_10] 69 (0, 0)) (by (with_reducible repeat (first | refine blk_drewN ?_ _ | refine blk_drew ?_ | refine blk_alloc ?_ _)); exact BK194.out) hb); have n2_ := Aside0.mk (below_step (by repeat (first | (with_reducible first | exact HB.out | apply below_alloc | apply pw_below_drewN | apply below_drew1 | refine below_set ?_ GE194.out) | exact HB.out)) hb); clear BK194; clear HB; have HO204 := n0_; have BK194 := n1_; have HB := n2_; clear n0_ n1_ n2_; (try clear hb); (try clear hb2); (try clear hk); (try clear hi); (try clear ho0)))
     go_ret2
     exact ⟨_, by first | rfl | (simp [errW_none, errW_some] <;> rfl) | (simp [*, errW_none, errW_some] <;> rfl), by (with_reducible repeat (first | apply Kd.R_alloc | apply Kd.R_drewN | apply Kd.R_drew)); exact HO204.out, by repeat (first | (with_reducible first | exact HB.out | apply below_alloc | apply pw_below_drewN | apply below_drew1 | refine below_set ?_ GE194.out) | exact HB.out)⟩

end Go.Proofs.Ytafmeagfockdfaa.Rg
