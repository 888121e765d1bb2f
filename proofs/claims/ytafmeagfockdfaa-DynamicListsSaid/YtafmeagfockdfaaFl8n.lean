-- Written by prn.py, a program of this session over the kit's printer. Not trusted: Lean checks it.
import Derived.Test.YtafmeagfockdfaaFl0
import Derived.Test.YtafmeagfockdfaaFl4
import Derived.Test.YtafmeagfockdfaaFl7
import Derived.Test.YtafmeagfockdfaaFlByt
import Derived.Test.YtafmeagfockdfaaFlRead
import Derived.Test.YtafmeagfockdfaaFlSame
import Derived.Test.YtafmeagfockdfaaSq
namespace Go.Proofs.Ytafmeagfockdfaa.Fl
open Go.Proofs.Ytafmeagfockdfaa.Sq
open Go.RowKit Go.Proofs.YtafmeagfockdfaaW.PrintWords Go.Proofs.YtafmeagfockdfaaW.PrintLast Go.Proofs.YtafmeagfockdfaaW.PrintMore
attribute [local go_sem] max2_int min2_int max_two min_two max_three min_three max_four min_four   -- for this text's walks alone
set_option linter.unusedVariables false
set_option linter.unusedSimpArgs false

/-! ### dynamic_Names: function 53 -/
def dynamic_Names.l0 : Nat → ByteArray → List ByteArray → List Int → Int → Int → List Int → Int → Int → Int → Int → Int → Int → Int → Int → Option (List ByteArray × Int)
  | 0, _, _, _, _, _, _, _, _, _, _, _, _, _, _ => none
  | k + 1, x0, x6, x12, x13, x14, x212000, x212001, x212002, x212003, x212004, x212005, x212006, x212007, x212008 => if x14 < x13 then (if 0 ≤ x14 then (if x14 < (x12.length : Int) then ((dynamic_Name.f k x0 x212000 x212001 x212002 x212003 x212004 x212005 x212006 x212007 x212008 (rd x12 x14)).bind fun bt213 => (if bt213.2 = true then (if bt213.1.toList = ([] : List UInt8) then (some (([] : List ByteArray), 17)) else (if x6.length < 8796093022208 then (dynamic_Names.l0 k x0 (x6 ++ [bt213.1]) x12 x13 (wrap64 (x14 + 1)) x212000 x212001 x212002 x212003 x212004 x212005 x212006 x212007 x212008) else (none))) else (some (([] : List ByteArray), 17)))) else (none)) else (none)) else (some (x6, 0))
def dynamic_Names.f (k : Nat) (a0 : ByteArray) (l1_0 : List Int) (a1_1 : Int) (a1_2 : Int) (a1_3 : Int) (a1_4 : Int) (a1_5 : Int) (a1_6 : Int) (a1_7 : Int) (a1_8 : Int) : Option (List ByteArray × Int) := dynamic_Names.l0 k a0 ([] : List ByteArray) l1_0 (l1_0.length : Int) 0 l1_0 a1_1 a1_2 a1_3 a1_4 a1_5 a1_6 a1_7 a1_8
theorem dynamic_Names.mono_l : ∀ k, (∀ y0 y1 y2 y3 y4 y5 y6 y7 y8 y9 y10 y11 y12 y13, LeO (dynamic_Names.l0 k y0 y1 y2 y3 y4 y5 y6 y7 y8 y9 y10 y11 y12 y13) (dynamic_Names.l0 (k + 1) y0 y1 y2 y3 y4 y5 y6 y7 y8 y9 y10 y11 y12 y13))
  | 0 => fun _ _ _ _ _ _ _ _ _ _ _ _ _ _ r h => by simp [dynamic_Names.l0] at h
  | k + 1 => by
    have ih0 := dynamic_Names.mono_l k
    · intro y0 y1 y2 y3 y4 y5 y6 y7 y8 y9 y10 y11 y12 y13
      unfold dynamic_Names.l0
      repeat' first
      | (with_reducible exact ih0 _ _ _ _ _ _ _ _ _ _ _ _ _ _)
      | (with_reducible exact dynamic_Name.mono _ _ _ _ _ _ _ _ _ _ _ _)
      | (with_reducible exact LeO.refl _)
      | (with_reducible exact LeO.none _)
      | (with_reducible refine LeO.ite ?_ ?_)
      | (with_reducible refine LeO.bind ?_ (fun _ => ?_))
      | exact ih0 _ _ _ _ _ _ _ _ _ _ _ _ _ _
      | exact dynamic_Name.mono _ _ _ _ _ _ _ _ _ _ _ _
      | exact LeO.none _
      | refine LeO.ite ?_ ?_
      | refine LeO.bind ?_ (fun _ => ?_)
theorem dynamic_Names.mono : ∀ a0 a1 a2 a3 a4 a5 a6 a7 a8 a9 k, LeO (dynamic_Names.f k a0 a1 a2 a3 a4 a5 a6 a7 a8 a9) (dynamic_Names.f (k + 1) a0 a1 a2 a3 a4 a5 a6 a7 a8 a9) := by
  intro a0 a1 a2 a3 a4 a5 a6 a7 a8 a9 k
  have ih0 := dynamic_Names.mono_l k
  unfold dynamic_Names.f
  repeat' first
      | (with_reducible exact ih0 _ _ _ _ _ _ _ _ _ _ _ _ _ _)
      | (with_reducible exact dynamic_Name.mono _ _ _ _ _ _ _ _ _ _ _ _)
      | (with_reducible exact LeO.refl _)
      | (with_reducible exact LeO.none _)
      | (with_reducible refine LeO.ite ?_ ?_)
      | (with_reducible refine LeO.bind ?_ (fun _ => ?_))
      | exact ih0 _ _ _ _ _ _ _ _ _ _ _ _ _ _
      | exact dynamic_Name.mono _ _ _ _ _ _ _ _ _ _ _ _
      | exact LeO.none _
      | refine LeO.ite ?_ ?_
      | refine LeO.bind ?_ (fun _ => ?_)
set_option maxHeartbeats 8000000 in
set_option maxRecDepth 100000 in
theorem dynamic_Names.calls (k : Nat) (a0 : ByteArray) (A1_0 : Option Addr) (c1_0 : Nat) (l1_0 : List Int) (a1_1 : Int) (a1_2 : Int) (a1_3 : Int) (a1_4 : Int) (a1_5 : Int) (a1_6 : Int) (a1_7 : Int) (a1_8 : Int) (r1 : List ByteArray) (r2 : Int) (w : World) (hr1_0 : Kd.C (Kd.int .i64) w A1_0 l1_0.length l1_0) (hc1_0 : l1_0.length ≤ c1_0) (h : dynamic_Names.f k a0 l1_0 a1_1 a1_2 a1_3 a1_4 a1_5 a1_6 a1_7 a1_8 = some (r1, r2)) :
    Calls Try.prog 53 #[.string a0, .agg #[.slice A1_0 l1_0.length c1_0, .int .i64 a1_1, .int .i64 a1_2, .int .i64 a1_3, .int .i64 a1_4, .int .i64 a1_5, .int .i64 a1_6, .int .i64 a1_7, .int .i64 a1_8]] w fun e w' => ∃ v0_ : Value, e = .returned (.tuple #[v0_, .int .i64 r2]) ∧ Kd.R Kd.string 9 w' w.heap.size (fun _ => True) v0_ r1 ∧ Below w.heap.size w w' := by
 have hu54 := Try.underlying54
 have HR1_0 := Aside0.mk hr1_0
 have HC1_0 := Aside0.mk hc1_0
 clear hr1_0 hc1_0
 have HB := Aside0.mk (Below.refl w.heap.size w)
 have H : (dynamic_Names.l0 k a0 ([] : List ByteArray) l1_0 (l1_0.length : Int) 0 l1_0 a1_1 a1_2 a1_3 a1_4 a1_5 a1_6 a1_7 a1_8) = some (r1, r2) := h
 clear h
 have H' := Aside0.mk H
 clear H
 go_enter Try.func53, Try.ntmps53
 go_wp2_with (first | ((with_reducible refine gate_dst (N := 3) rfl ?_); refine box_event ?hg (N := 3) ?hd (cs := #[.slice A1_0 l1_0.length c1_0, .int .i64 a1_1, .int .i64 a1_2, .int .i64 a1_3, .int .i64 a1_4, .int .i64 a1_5, .int .i64 a1_6, .int .i64 a1_7, .int .i64 a1_8]) (t := 54) ?hr ?_; (case hd => rfl); (case hg => rfl); (case hr => first | (go_simp; done) | (go_simp; rfl)); intro gb211 hg w3 hbox hb; have n0_ := Aside0.mk (below_step (by repeat (first | (with_reducible first | exact HB.out | apply below_alloc | apply pw_below_drewN | apply below_drew1) | exact HB.out)) hb); have n1_ := Aside0.mk (hbox); have n2_ := Aside0.mk ((by rw [hg]; exact (below_size (by repeat (first | (with_reducible first | exact HB.out | apply below_alloc | apply pw_below_drewN | apply below_drew1) | exact HB.out))) : w.heap.size ≤ gb211)); have n3_ := Aside0.mk ((by rw [hg]; exact (below_size (by repeat (first | (with_reducible first | exact HB.out | apply below_alloc | apply pw_below_drewN | apply below_drew1) | exact HB.out))) : w.heap.size ≤ gb211)); clear HB; have HB := n0_; have BK211 := n1_; have GW211 := n2_; have GE211 := n3_; clear n0_ n1_ n2_ n3_; clear hb hbox hg; have hcz4_0 : w3.cell? ⟨gb211, 0, none⟩ = some (.slice A1_0 l1_0.length c1_0) := (blk_cell BK211.out 0).trans rfl; have hcz4_1 : w3.cell? ⟨gb211, 1, none⟩ = some (.int .i64 a1_1) := (blk_cell BK211.out 1).trans rfl; have hcz4_2 : w3.cell? ⟨gb211, 2, none⟩ = some (.int .i64 a1_2) := (blk_cell BK211.out 2).trans rfl; have hcz4_3 : w3.cell? ⟨gb211, 3, none⟩ = some (.int .i64 a1_3) := (blk_cell BK211.out 3).trans rfl; have hcz4_4 : w3.cell? ⟨gb211, 4, none⟩ = some (.int .i64 a1_4) := (blk_cell BK211.out 4).trans rfl; have hcz4_5 : w3.cell? ⟨gb211, 5, none⟩ = some (.int .i64 a1_5) := (blk_cell BK211.out 5).trans rfl; have hcz4_6 : w3.cell? ⟨gb211, 6, none⟩ = some (.int .i64 a1_6) := (blk_cell BK211.out 6).trans rfl; have hcz4_7 : w3.cell? ⟨gb211, 7, none⟩ = some (.int .i64 a1_7) := (blk_cell BK211.out 7).trans rfl; have hcz4_8 : w3.cell? ⟨gb211, 8, none⟩ = some (.int .i64 a1_8) := (blk_cell BK211.out 8).trans rfl; have hfz4_0 := blk_frozen BK211.out 0; have hfz4_1 := blk_frozen BK211.out 1; have hfz4_2 := blk_frozen BK211.out 2; have hfz4_3 := blk_frozen BK211.out 3; have hfz4_4 := blk_frozen BK211.out 4; have hfz4_5 := blk_frozen BK211.out 5; have hfz4_6 := blk_frozen BK211.out 6; have hfz4_7 := blk_frozen BK211.out 7; have hfz4_8 := blk_frozen BK211.out 8))
 go_loopg [6, 14] k (fun kq v6 v14 w' => ∃ (x6_1 : List ByteArray) (x14_1 : Int), v14 = .int .i64 x14_1 ∧ Aside0 (dynamic_Names.l0 kq a0 x6_1 l1_0 (l1_0.length : Int) x14_1 l1_0 a1_1 a1_2 a1_3 a1_4 a1_5 a1_6 a1_7 a1_8 = some (r1, r2)) ∧ Aside0 (kq ≤ k) ∧ Aside0 (Kd.R Kd.string 9 w' w.heap.size (fun _ => True) v6 x6_1) ∧ Aside0 (w'.heap[gb211]? = some (.cells #[(.slice A1_0 l1_0.length c1_0), .int .i64 a1_1, .int .i64 a1_2, .int .i64 a1_3, .int .i64 a1_4, .int .i64 a1_5, .int .i64 a1_6, .int .i64 a1_7, .int .i64 a1_8] 54 (0, 0))) ∧ Aside0 (Below w.heap.size w w'))
 case atStart => exact ⟨(([] : List ByteArray)), (0), (by first | rfl | (simp; done) | (simp [*]; done)), H', ⟨Nat.le_refl _⟩, ⟨by first | exact Kd.R_nil _ _ _ _ _ | exact Kd.N_nil _ _ _ _ _ | exact Kd.V_nil _ _ _ _ _ | exact Kd.Q_nil _ _ _ _ _ | exact Kd.S_nil _ _ _ _ _⟩, ⟨by (with_reducible repeat (first | refine blk_drewN ?_ _ | refine blk_drew ?_ | refine blk_alloc ?_ _)); exact BK211.out⟩, ⟨by repeat (first | (with_reducible first | exact HB.out | apply below_alloc | apply pw_below_drewN | apply below_drew1 | refine below_set ?_ GE211.out) | exact HB.out)⟩⟩
 case round =>
  clear H'
  try clear c1
  try clear p2
  try clear hcz4_0
  try clear hcz4_1
  try clear hcz4_2
  try clear hcz4_3
  try clear hcz4_4
  try clear hcz4_5
  try clear hcz4_6
  try clear hcz4_7
  try clear hcz4_8
  try clear hfz4_0
  try clear hfz4_1
  try clear hfz4_2
  try clear hfz4_3
  try clear hfz4_4
  try clear hfz4_5
  try clear hfz4_6
  try clear hfz4_7
  try clear hfz4_8
  obtain ⟨x6_1, x14_1, rfl, HA, HK1, HO_6, BK211, HB⟩ := hrel
  cases gk with
  | zero => exact absurd HA.out (by simp [dynamic_Names.l0])
  | succ k1 =>
   have H := HA.out
   clear HA
   simp only [dynamic_Names.l0] at H
   by_cases c5 : x14_1 < (l1_0.length : Int)
   rotate_left
   · rw [if_neg c5] at H
     have c5b0 : decide (x14_1 < (l1_0.length : Int)) = false := decide_eq_false c5
     clear c5
     simp only [Option.some.injEq, Prod.mk.injEq] at H
     obtain ⟨rfl, rfl⟩ := H
     go_wp2
     go_ret2
     exact ⟨_, by first | rfl | (simp [errW_none, errW_some] <;> rfl) | (simp [*, errW_none, errW_some] <;> rfl), by (with_reducible repeat (first | apply Kd.R_alloc | apply Kd.R_drewN | apply Kd.R_drew)); exact HO_6.out, by repeat (first | (with_reducible first | exact HB.out | apply below_alloc | apply pw_below_drewN | apply below_drew1 | refine below_set ?_ GE211.out) | exact HB.out)⟩
   rw [if_pos c5] at H
   have c5b0 : decide (x14_1 < (l1_0.length : Int)) = true := decide_eq_true c5
   clear c5
   by_cases c6 : 0 ≤ x14_1
   rotate_left
   · rw [if_neg c6] at H
     exact absurd H (by simp)
   rw [if_pos c6] at H
   have c6b0 : decide (0 ≤ x14_1) = true := decide_eq_true c6
   clear c6
   by_cases c7 : x14_1 < (l1_0.length : Int)
   rotate_left
   · rw [if_neg c7] at H
     exact absurd H (by simp)
   rw [if_pos c7] at H
   have c7b0 : decide (x14_1 < (l1_0.length : Int)) = true := decide_eq_true c7
   clear c7
   replace H := Option.bind_eq_some_iff.mp H
   obtain ⟨⟨t213, t214⟩, A80, H⟩ := H
   replace H : (if t214 = true then (if t213.toList = ([] : List UInt8) then (some (([] : List ByteArray), 17)) else (if x6_1.length < 8796093022208 then (dynamic_Names.l0 k1 a0 (x6_1 ++ [t213]) l1_0 (l1_0.length : Int) (wrap64 (x14_1 + 1)) l1_0 a1_1 a1_2 a1_3 a1_4 a1_5 a1_6 a1_7 a1_8) else (none))) else (some (([] : List ByteArray), 17))) = some (r1, r2) := H
   have A8 := Aside0.mk A80
   clear A80
   by_cases c9 : t214 = true
   rotate_left
   · replace c9 := Bool.eq_false_iff.mpr c9
     subst c9
     have H1 : (some (([] : List ByteArray), 17)) = some (r1, r2) := by rw [if_neg (show ¬ (false = true) by decide)] at H; exact H
     clear H
     have H := H1
     clear H1
     simp only [Option.some.injEq, Prod.mk.injEq] at H
     obtain ⟨rfl, rfl⟩ := H
     have p212 : 0 ≤ (x14_1 : Int) := of_decide_eq_true (by first | (with_reducible assumption) | assumption)
     have q212 : x14_1 < (l1_0.length : Int) := of_decide_eq_true (by first | (with_reducible assumption) | assumption)
     obtain ⟨ad212, e212, hx212_0⟩ := Kd.at_int HR1_0.out x14_1 p212 q212
     cases e212
     replace hx212_0 := up_ hx212_0 HB.out
     replace p212 := eq_true p212
     replace q212 := eq_true q212
     have hcz17_0 : wr.cell? ⟨gb211, 0, none⟩ = some (.slice (some ad212) l1_0.length c1_0) := (blk_cell BK211.out 0).trans rfl
     have hcz17_1 : wr.cell? ⟨gb211, 1, none⟩ = some (.int .i64 a1_1) := (blk_cell BK211.out 1).trans rfl
     have hcz17_2 : wr.cell? ⟨gb211, 2, none⟩ = some (.int .i64 a1_2) := (blk_cell BK211.out 2).trans rfl
     have hcz17_3 : wr.cell? ⟨gb211, 3, none⟩ = some (.int .i64 a1_3) := (blk_cell BK211.out 3).trans rfl
     have hcz17_4 : wr.cell? ⟨gb211, 4, none⟩ = some (.int .i64 a1_4) := (blk_cell BK211.out 4).trans rfl
     have hcz17_5 : wr.cell? ⟨gb211, 5, none⟩ = some (.int .i64 a1_5) := (blk_cell BK211.out 5).trans rfl
     have hcz17_6 : wr.cell? ⟨gb211, 6, none⟩ = some (.int .i64 a1_6) := (blk_cell BK211.out 6).trans rfl
     have hcz17_7 : wr.cell? ⟨gb211, 7, none⟩ = some (.int .i64 a1_7) := (blk_cell BK211.out 7).trans rfl
     have hcz17_8 : wr.cell? ⟨gb211, 8, none⟩ = some (.int .i64 a1_8) := (blk_cell BK211.out 8).trans rfl
     have hfz17_0 := blk_frozen BK211.out 0
     have hfz17_1 := blk_frozen BK211.out 1
     have hfz17_2 := blk_frozen BK211.out 2
     have hfz17_3 := blk_frozen BK211.out 3
     have hfz17_4 := blk_frozen BK211.out 4
     have hfz17_5 := blk_frozen BK211.out 5
     have hfz17_6 := blk_frozen BK211.out 6
     have hfz17_7 := blk_frozen BK211.out 7
     have hfz17_8 := blk_frozen BK211.out 8
     go_wp2_with (first | ((with_reducible refine gate_callee (f := 55) rfl ?_); refine goesL_ (some 22) rfl rfl Try.func55 (by kernel_rfl) rfl #[.string a0, .agg #[.slice (some ad212) l1_0.length c1_0, .int .i64 a1_1, .int .i64 a1_2, .int .i64 a1_3, .int .i64 a1_4, .int .i64 a1_5, .int .i64 a1_6, .int .i64 a1_7, .int .i64 a1_8], .int .i64 (rd l1_0 x14_1)] rfl (by (try simp only [List.map_toArray, List.map_cons, List.map_nil]); first | done | rfl | (simp only [List.length_drop, List.length_take]; rfl)) ?_; (with_reducible refine (dynamic_Name.calls k1 a0 _ _ l1_0 a1_1 a1_2 a1_3 a1_4 a1_5 a1_6 a1_7 a1_8 (rd l1_0 x14_1) t213 false _ ?side1 ?side2 A8.out).mono ?_); (case side1 => repeat (first | exact (Kd.C_below HR1_0.out HB.out) | (with_reducible refine Kd.C_alloc ?_ _) | (with_reducible refine Kd.C_drewN ?_ _) | (with_reducible refine Kd.C_drew ?_))); (case side2 => exact HC1_0.out); rintro e w18 ⟨rfl, hb⟩; refine ⟨_, rfl, ?_⟩; have n0_ := Aside0.mk (Kd.R_below (by (with_reducible repeat (first | apply Kd.R_alloc | apply Kd.R_drewN | apply Kd.R_drew)); exact HO_6.out) hb); have n1_ := Aside0.mk (blk_below (g := gb211) (o := .cells #[.slice (some ad212) l1_0.length c1_0, .int .i64 a1_1, .int .i64 a1_2, .int .i64 a1_3, .int .i64 a1_4, .int .i64 a1_5, .int .i64 a1_6, .int .i64 a1_7, .int .i64 a1_8] 54 (0, 0)) (by (with_reducible repeat (first | refine blk_drewN ?_ _ | refine blk_drew ?_ | refine blk_alloc ?_ _)); exact BK211.out) hb); have n2_ := Aside0.mk (below_step (by repeat (first | (with_reducible first | exact HB.out | apply below_alloc | apply pw_below_drewN | apply below_drew1 | refine below_set ?_ GE211.out) | exact HB.out)) hb); clear HO_6; clear BK211; clear HB; have HO_6 := n0_; have BK211 := n1_; have HB := n2_; clear n0_ n1_ n2_; (try clear hb); (try clear hb2); (try clear hk); (try clear hi)))
     go_ret2
     exact ⟨_, by first | rfl | (simp [errW_none, errW_some] <;> rfl) | (simp [*, errW_none, errW_some] <;> rfl), by first | exact Kd.R_nil _ _ _ _ _ | exact Kd.N_nil _ _ _ _ _ | exact Kd.V_nil _ _ _ _ _ | exact Kd.Q_nil _ _ _ _ _ | exact Kd.S_nil _ _ _ _ _, by repeat (first | (with_reducible first | exact HB.out | apply below_alloc | apply pw_below_drewN | apply below_drew1 | refine below_set ?_ GE211.out) | exact HB.out)⟩
   subst c9
   have H1 : (if t213.toList = ([] : List UInt8) then (some (([] : List ByteArray), 17)) else (if x6_1.length < 8796093022208 then (dynamic_Names.l0 k1 a0 (x6_1 ++ [t213]) l1_0 (l1_0.length : Int) (wrap64 (x14_1 + 1)) l1_0 a1_1 a1_2 a1_3 a1_4 a1_5 a1_6 a1_7 a1_8) else (none))) = some (r1, r2) := by rw [if_pos rfl] at H; exact H
   clear H
   have H := H1
   clear H1
   by_cases c10 : t213.toList = ([] : List UInt8)
   · rw [if_pos c10] at H
     have c10b0 : (t213.toList == ([] : List UInt8)) = true := beq_iff_eq.mpr c10
     have c10b1 : (t213.toList != ([] : List UInt8)) = false := bne_eq_false_iff_eq.mpr c10
     clear c10
     simp only [Option.some.injEq, Prod.mk.injEq] at H
     obtain ⟨rfl, rfl⟩ := H
     have p212 : 0 ≤ (x14_1 : Int) := of_decide_eq_true (by first | (with_reducible assumption) | assumption)
     have q212 : x14_1 < (l1_0.length : Int) := of_decide_eq_true (by first | (with_reducible assumption) | assumption)
     obtain ⟨ad212, e212, hx212_0⟩ := Kd.at_int HR1_0.out x14_1 p212 q212
     cases e212
     replace hx212_0 := up_ hx212_0 HB.out
     replace p212 := eq_true p212
     replace q212 := eq_true q212
     have hcz11_0 : wr.cell? ⟨gb211, 0, none⟩ = some (.slice (some ad212) l1_0.length c1_0) := (blk_cell BK211.out 0).trans rfl
     have hcz11_1 : wr.cell? ⟨gb211, 1, none⟩ = some (.int .i64 a1_1) := (blk_cell BK211.out 1).trans rfl
     have hcz11_2 : wr.cell? ⟨gb211, 2, none⟩ = some (.int .i64 a1_2) := (blk_cell BK211.out 2).trans rfl
     have hcz11_3 : wr.cell? ⟨gb211, 3, none⟩ = some (.int .i64 a1_3) := (blk_cell BK211.out 3).trans rfl
     have hcz11_4 : wr.cell? ⟨gb211, 4, none⟩ = some (.int .i64 a1_4) := (blk_cell BK211.out 4).trans rfl
     have hcz11_5 : wr.cell? ⟨gb211, 5, none⟩ = some (.int .i64 a1_5) := (blk_cell BK211.out 5).trans rfl
     have hcz11_6 : wr.cell? ⟨gb211, 6, none⟩ = some (.int .i64 a1_6) := (blk_cell BK211.out 6).trans rfl
     have hcz11_7 : wr.cell? ⟨gb211, 7, none⟩ = some (.int .i64 a1_7) := (blk_cell BK211.out 7).trans rfl
     have hcz11_8 : wr.cell? ⟨gb211, 8, none⟩ = some (.int .i64 a1_8) := (blk_cell BK211.out 8).trans rfl
     have hfz11_0 := blk_frozen BK211.out 0
     have hfz11_1 := blk_frozen BK211.out 1
     have hfz11_2 := blk_frozen BK211.out 2
     have hfz11_3 := blk_frozen BK211.out 3
     have hfz11_4 := blk_frozen BK211.out 4
     have hfz11_5 := blk_frozen BK211.out 5
     have hfz11_6 := blk_frozen BK211.out 6
     have hfz11_7 := blk_frozen BK211.out 7
     have hfz11_8 := blk_frozen BK211.out 8
     go_wp2_with (first | ((with_reducible refine gate_callee (f := 55) rfl ?_); refine goesL_ (some 22) rfl rfl Try.func55 (by kernel_rfl) rfl #[.string a0, .agg #[.slice (some ad212) l1_0.length c1_0, .int .i64 a1_1, .int .i64 a1_2, .int .i64 a1_3, .int .i64 a1_4, .int .i64 a1_5, .int .i64 a1_6, .int .i64 a1_7, .int .i64 a1_8], .int .i64 (rd l1_0 x14_1)] rfl (by (try simp only [List.map_toArray, List.map_cons, List.map_nil]); first | done | rfl | (simp only [List.length_drop, List.length_take]; rfl)) ?_; (with_reducible refine (dynamic_Name.calls k1 a0 _ _ l1_0 a1_1 a1_2 a1_3 a1_4 a1_5 a1_6 a1_7 a1_8 (rd l1_0 x14_1) t213 true _ ?side1 ?side2 A8.out).mono ?_); (case side1 => repeat (first | exact (Kd.C_below HR1_0.out HB.out) | (with_reducible refine Kd.C_alloc ?_ _) | (with_reducible refine Kd.C_drewN ?_ _) | (with_reducible refine Kd.C_drew ?_))); (case side2 => exact HC1_0.out); rintro e w12 ⟨rfl, hb⟩; refine ⟨_, rfl, ?_⟩; have n0_ := Aside0.mk (Kd.R_below (by (with_reducible repeat (first | apply Kd.R_alloc | apply Kd.R_drewN | apply Kd.R_drew)); exact HO_6.out) hb); have n1_ := Aside0.mk (blk_below (g := gb211) (o := .cells #[.slice (some ad212) l1_0.length c1_0, .int .i64 a1_1, .int .i64 a1_2, .int .i64 a1_3, .int .i64 a1_4, .int .i64 a1_5, .int .i64 a1_6, .int .i64 a1_7, .int .i64 a1_8] 54 (0, 0)) (by (with_reducible repeat (first | refine blk_drewN ?_ _ | refine blk_drew ?_ | refine blk_alloc ?_ _)); exact BK211.out) hb); have n2_ := Aside0.mk (below_step (by repeat (first | (with_reducible first | exact HB.out | apply below_alloc | apply pw_below_drewN | apply below_drew1 | refine below_set ?_ GE211.out) | exact HB.out)) hb); clear HO_6; clear BK211; clear HB; have HO_6 := n0_; have BK211 := n1_; have HB := n2_; clear n0_ n1_ n2_; (try clear hb); (try clear hb2); (try clear hk); (try clear hi)))
     go_ret2
     exact ⟨_, by first | rfl | (simp [errW_none, errW_some] <;> rfl) | (simp [*, errW_none, errW_some] <;> rfl), by first | exact Kd.R_nil _ _ _ _ _ | exact Kd.N_nil _ _ _ _ _ | exact Kd.V_nil _ _ _ _ _ | exact Kd.Q_nil _ _ _ _ _ | exact Kd.S_nil _ _ _ _ _, by repeat (first | (with_reducible first | exact HB.out | apply below_alloc | apply pw_below_drewN | apply below_drew1 | refine below_set ?_ GE211.out) | exact HB.out)⟩
   rw [if_neg c10] at H
   have c10b0 : (t213.toList == ([] : List UInt8)) = false := beq_eq_false_iff_ne.mpr c10
   have c10b1 : (t213.toList != ([] : List UInt8)) = true := bne_iff_ne.mpr c10
   by_cases c13 : x6_1.length < 8796093022208
   rotate_left
   · rw [if_neg c13] at H
     exact absurd H (by simp)
   rw [if_pos c13] at H
   have LMc13 := Aside0.mk c13
   clear c13
   obtain ⟨y215, hy215⟩ : ∃ y_ : List ByteArray, y_ = (x6_1 ++ [t213]) := ⟨_, rfl⟩
   replace H : (dynamic_Names.l0 k1 a0 y215 l1_0 (l1_0.length : Int) (wrap64 (x14_1 + 1)) l1_0 a1_1 a1_2 a1_3 a1_4 a1_5 a1_6 a1_7 a1_8) = some (r1, r2) := by first | (rw [hy215]; with_reducible exact H) | (have H2_ := (Option.bind_some _ _).symm.trans H; rw [hy215]; with_reducible exact H2_) | (have H2_ := (Option.bind_some _ _).symm.trans H; with_reducible exact H2_) | with_reducible exact H | (rw [hy215]; exact H) | exact H
   have Ny215 := Aside0.mk hy215
   clear hy215
   have H' := Aside0.mk H
   clear H
   have p212 : 0 ≤ (x14_1 : Int) := of_decide_eq_true (by first | (with_reducible assumption) | assumption)
   have q212 : x14_1 < (l1_0.length : Int) := of_decide_eq_true (by first | (with_reducible assumption) | assumption)
   obtain ⟨ad212, e212, hx212_0⟩ := Kd.at_int HR1_0.out x14_1 p212 q212
   cases e212
   replace hx212_0 := up_ hx212_0 HB.out
   replace p212 := eq_true p212
   replace q212 := eq_true q212
   have hcz14_0 : wr.cell? ⟨gb211, 0, none⟩ = some (.slice (some ad212) l1_0.length c1_0) := (blk_cell BK211.out 0).trans rfl
   have hcz14_1 : wr.cell? ⟨gb211, 1, none⟩ = some (.int .i64 a1_1) := (blk_cell BK211.out 1).trans rfl
   have hcz14_2 : wr.cell? ⟨gb211, 2, none⟩ = some (.int .i64 a1_2) := (blk_cell BK211.out 2).trans rfl
   have hcz14_3 : wr.cell? ⟨gb211, 3, none⟩ = some (.int .i64 a1_3) := (blk_cell BK211.out 3).trans rfl
   have hcz14_4 : wr.cell? ⟨gb211, 4, none⟩ = some (.int .i64 a1_4) := (blk_cell BK211.out 4).trans rfl
   have hcz14_5 : wr.cell? ⟨gb211, 5, none⟩ = some (.int .i64 a1_5) := (blk_cell BK211.out 5).trans rfl
   have hcz14_6 : wr.cell? ⟨gb211, 6, none⟩ = some (.int .i64 a1_6) := (blk_cell BK211.out 6).trans rfl
   have hcz14_7 : wr.cell? ⟨gb211, 7, none⟩ = some (.int .i64 a1_7) := (blk_cell BK211.out 7).trans rfl
   have hcz14_8 : wr.cell? ⟨gb211, 8, none⟩ = some (.int .i64 a1_8) := (blk_cell BK211.out 8).trans rfl
   have hfz14_0 := blk_frozen BK211.out 0
   have hfz14_1 := blk_frozen BK211.out 1
   have hfz14_2 := blk_frozen BK211.out 2
   have hfz14_3 := blk_frozen BK211.out 3
   have hfz14_4 := blk_frozen BK211.out 4
   have hfz14_5 := blk_frozen BK211.out 5
   have hfz14_6 := blk_frozen BK211.out 6
   have hfz14_7 := blk_frozen BK211.out 7
   have hfz14_8 := blk_frozen BK211.out 8
   go_wp2_with (first | ((with_reducible refine gate_callee (f := 55) rfl ?_); refine goesL_ (some 22) rfl rfl Try.func55 (by kernel_rfl) rfl #[.string a0, .agg #[.slice (some ad212) l1_0.length c1_0, .int .i64 a1_1, .int .i64 a1_2, .int .i64 a1_3, .int .i64 a1_4, .int .i64 a1_5, .int .i64 a1_6, .int .i64 a1_7, .int .i64 a1_8], .int .i64 (rd l1_0 x14_1)] rfl (by (try simp only [List.map_toArray, List.map_cons, List.map_nil]); first | done | rfl | (simp only [List.length_drop, List.length_take]; rfl)) ?_; (with_reducible refine (dynamic_Name.calls k1 a0 _ _ l1_0 a1_1 a1_2 a1_3 a1_4 a1_5 a1_6 a1_7 a1_8 (rd l1_0 x14_1) t213 true _ ?side1 ?side2 A8.out).mono ?_); (case side1 => repeat (first | exact (Kd.C_below HR1_0.out HB.out) | (with_reducible refine Kd.C_alloc ?_ _) | (with_reducible refine Kd.C_drewN ?_ _) | (with_reducible refine Kd.C_drew ?_))); (case side2 => exact HC1_0.out); rintro e w15 ⟨rfl, hb⟩; refine ⟨_, rfl, ?_⟩; have n0_ := Aside0.mk (Kd.R_below (by (with_reducible repeat (first | apply Kd.R_alloc | apply Kd.R_drewN | apply Kd.R_drew)); exact HO_6.out) hb); have n1_ := Aside0.mk (blk_below (g := gb211) (o := .cells #[.slice (some ad212) l1_0.length c1_0, .int .i64 a1_1, .int .i64 a1_2, .int .i64 a1_3, .int .i64 a1_4, .int .i64 a1_5, .int .i64 a1_6, .int .i64 a1_7, .int .i64 a1_8] 54 (0, 0)) (by (with_reducible repeat (first | refine blk_drewN ?_ _ | refine blk_drew ?_ | refine blk_alloc ?_ _)); exact BK211.out) hb); have n2_ := Aside0.mk (below_step (by repeat (first | (with_reducible first | exact HB.out | apply below_alloc | apply pw_below_drewN | apply below_drew1 | refine below_set ?_ GE211.out) | exact HB.out)) hb); clear HO_6; clear BK211; clear HB; have HO_6 := n0_; have BK211 := n1_; have HB := n2_; clear n0_ n1_ n2_; (try clear hb); (try clear hb2); (try clear hk); (try clear hi)) | ((with_reducible refine gate_builtin (b := .append) (xs := #[.tmp 31, .tmp 33]) rfl ?_); at_builtin; refine Kd.R_append Kd.string (w0 := w) w.heap.size rfl (.tmp 31) (.tmp 33) 50 9 (.string ⟨#[]⟩) 16 rfl Try.underlying50 info9 rfl (by decide) (by omega) u6 x6_1 t213 [.string t213] (fun _ => True) (fun _ => False) rfl rfl ?aP (fun _ hk => hk.elim) ?aF ?aO ?aB ?aS ?aL ?_; (case aP => exact rfl); (case aB => exact (by repeat (first | (with_reducible first | exact HB.out | apply below_alloc | apply pw_below_drewN | apply below_drew1 | refine below_set ?_ GE211.out) | exact HB.out))); (case aF => exact (fun _ _ => trivial)); (case aO => exact (by (with_reducible repeat (first | apply Kd.R_alloc | apply Kd.R_drewN | apply Kd.R_drew)); exact HO_6.out)); (case aS => exact (below_size (by repeat (first | (with_reducible first | exact HB.out | apply below_alloc | apply pw_below_drewN | apply below_drew1 | refine below_set ?_ GE211.out) | exact HB.out)))); (case aL => have := LMc13.out; omega); intro v216 w16 ho hb hg hat; rw [← Ny215.out] at ho; have n0_ := Aside0.mk (blk_grown (g := gb211) (o := .cells #[.slice (some ad212) l1_0.length c1_0, .int .i64 a1_1, .int .i64 a1_2, .int .i64 a1_3, .int .i64 a1_4, .int .i64 a1_5, .int .i64 a1_6, .int .i64 a1_7, .int .i64 a1_8] 54 (0, 0)) (by (with_reducible repeat (first | refine blk_drewN ?_ _ | refine blk_drew ?_ | refine blk_alloc ?_ _)); exact BK211.out) hg (Kd.R_ne HO_6.out BK211.out (by decide))); have n1_ := Aside0.mk (hb); have n2_ := Aside0.mk (ho); clear BK211; clear HB; clear HO_6; have BK211 := n0_; have HB := n1_; have HO217 := n2_; clear n0_ n1_ n2_; clear ho hb hg hat))
   go_roundg k1
   case measure => have := HK1.out; omega
   case rel => exact ⟨(y215), (wrap64 (x14_1 + 1)), (by first | rfl | (simp; done) | (simp [*]; done)), H', ⟨by have := HK1.out; omega⟩, ⟨by (with_reducible repeat (first | apply Kd.R_alloc | apply Kd.R_drewN | apply Kd.R_drew)); exact HO217.out⟩, ⟨by (with_reducible repeat (first | refine blk_drewN ?_ _ | refine blk_drew ?_ | refine blk_alloc ?_ _)); exact BK211.out⟩, ⟨by repeat (first | (with_reducible first | exact HB.out | apply below_alloc | apply pw_below_drewN | apply below_drew1 | refine below_set ?_ GE211.out) | exact HB.out)⟩⟩

end Go.Proofs.Ytafmeagfockdfaa.Fl
