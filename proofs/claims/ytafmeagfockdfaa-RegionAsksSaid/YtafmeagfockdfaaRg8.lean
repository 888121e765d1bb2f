-- Written by prn.py, a program of this session over the kit's printer. Not trusted: Lean checks it.
import Derived.Test.YtafmeagfockdfaaRg0
import Derived.Test.YtafmeagfockdfaaRg7
import Derived.Test.YtafmeagfockdfaaSq
namespace Go.Proofs.Ytafmeagfockdfaa.Rg
open Go.Proofs.Ytafmeagfockdfaa.Sq
open Go.RowKit Go.Proofs.YtafmeagfockdfaaW.PrintWords Go.Proofs.YtafmeagfockdfaaW.PrintLast Go.Proofs.YtafmeagfockdfaaW.PrintMore
attribute [local go_sem] max2_int min2_int max_two min_two max_three min_three max_four min_four   -- for this text's walks alone
set_option linter.unusedVariables false
set_option linter.unusedSimpArgs false

/-! ### flyleafref15_Row: function 116 -/
def flyleafref15_Row.l0 : Nat → List (S87) → List (S41) → Int → Option ((List (S41)))
  | 0, _, _, _ => none
  | k + 1, x0, x3, x4 => if x4 < (x0.length : Int) then (if 0 ≤ x4 then (if ((rd_T87 x0 x4).f1 = true) then (if (x3.length : Int) > 0 then (if 0 ≤ (wrap64 ((x3.length : Int) - 1)) then (if (wrap64 ((x3.length : Int) - 1)) < (x3.length : Int) then ((flyleafref15_one.f ((rd_T41 x3 (wrap64 ((x3.length : Int) - 1))).f0) ((rd_T41 x3 (wrap64 ((x3.length : Int) - 1))).f1) ((rd_T41 x3 (wrap64 ((x3.length : Int) - 1))).f2) ((rd_T41 x3 (wrap64 ((x3.length : Int) - 1))).f3) ((rd_T41 x3 (wrap64 ((x3.length : Int) - 1))).f4) ((rd_T41 x3 (wrap64 ((x3.length : Int) - 1))).f5) ((rd_T87 x0 x4).f0.f0) ((rd_T87 x0 x4).f0.f1) ((rd_T87 x0 x4).f0.f2) ((rd_T87 x0 x4).f0.f3) ((rd_T87 x0 x4).f0.f4) ((rd_T87 x0 x4).f0.f5)).bind fun t149 => (if t149 = true then (flyleafref15_Row.l0 k x0 (x3.set ((wrap64 ((x3.length : Int) - 1)) : Int).toNat (⟨(rd_T41 x3 (wrap64 ((x3.length : Int) - 1))).f0, (rd_T87 x0 x4).f0.f1, (rd_T41 x3 (wrap64 ((x3.length : Int) - 1))).f2, (rd_T41 x3 (wrap64 ((x3.length : Int) - 1))).f3, (rd_T41 x3 (wrap64 ((x3.length : Int) - 1))).f4, (rd_T41 x3 (wrap64 ((x3.length : Int) - 1))).f5⟩ : S41)) (wrap64 (x4 + 1))) else (if x3.length < 2932031007402 then (flyleafref15_Row.l0 k x0 (x3 ++ [(⟨(rd_T87 x0 x4).f0.f0, (rd_T87 x0 x4).f0.f1, (rd_T87 x0 x4).f0.f2, (rd_T87 x0 x4).f0.f3, (rd_T87 x0 x4).f0.f4, (rd_T87 x0 x4).f0.f5⟩ : S41)]) (wrap64 (x4 + 1))) else (none)))) else (none)) else (none)) else (if x3.length < 2932031007402 then (flyleafref15_Row.l0 k x0 (x3 ++ [(⟨(rd_T87 x0 x4).f0.f0, (rd_T87 x0 x4).f0.f1, (rd_T87 x0 x4).f0.f2, (rd_T87 x0 x4).f0.f3, (rd_T87 x0 x4).f0.f4, (rd_T87 x0 x4).f0.f5⟩ : S41)]) (wrap64 (x4 + 1))) else (none))) else (flyleafref15_Row.l0 k x0 x3 (wrap64 (x4 + 1)))) else (none)) else (some x3)
def flyleafref15_Row.f (k : Nat) (l0 : List (S87)) : Option ((List (S41))) := flyleafref15_Row.l0 k l0 ([] : List (S41)) 0
theorem flyleafref15_Row.mono_l : ∀ k, (∀ y0 y1 y2, LeO (flyleafref15_Row.l0 k y0 y1 y2) (flyleafref15_Row.l0 (k + 1) y0 y1 y2))
  | 0 => fun _ _ _ r h => by simp [flyleafref15_Row.l0] at h
  | k + 1 => by
    have ih0 := flyleafref15_Row.mono_l k
    · intro y0 y1 y2
      unfold flyleafref15_Row.l0
      repeat' first
      | (with_reducible exact ih0 _ _ _)
      | (with_reducible exact LeO.refl _)
      | (with_reducible exact LeO.none _)
      | (with_reducible refine LeO.ite ?_ ?_)
      | (with_reducible refine LeO.bind ?_ (fun _ => ?_))
      | exact ih0 _ _ _
      | exact LeO.none _
      | refine LeO.ite ?_ ?_
      | refine LeO.bind ?_ (fun _ => ?_)
theorem flyleafref15_Row.mono : ∀ a0 k, LeO (flyleafref15_Row.f k a0) (flyleafref15_Row.f (k + 1) a0) := by
  intro a0 k
  have ih0 := flyleafref15_Row.mono_l k
  unfold flyleafref15_Row.f
  repeat' first
      | (with_reducible exact ih0 _ _ _)
      | (with_reducible exact LeO.refl _)
      | (with_reducible exact LeO.none _)
      | (with_reducible refine LeO.ite ?_ ?_)
      | (with_reducible refine LeO.bind ?_ (fun _ => ?_))
      | exact ih0 _ _ _
      | exact LeO.none _
      | refine LeO.ite ?_ ?_
      | refine LeO.bind ?_ (fun _ => ?_)
def flyleafref15_Row.T9 : Bool × List (List Nat × List Nat) := (true, [([], []), ([], []), ([1], [1]), ([0, 2], [0, 2]), ([3], [3]), ([], []), ([4, 5], [4, 5]), ([6, 6, 0, 1, 2, 3, 4, 5, 6], [6])])
def flyleafref15_Row.B9 : List Nat := [0, 0, 2, 7, 15, 0, 63, 127]
theorem flyleafref15_Row.tab9 : rtab .any (opsOf Try.f116 9) = flyleafref15_Row.T9 := by kernel_rfl
theorem flyleafref15_Row.bits9 : waitsOk flyleafref15_Row.T9.2 flyleafref15_Row.B9 = true := by kernel_rfl
set_option maxHeartbeats 8000000 in
set_option maxRecDepth 100000 in
theorem flyleafref15_Row.calls (k : Nat) (A0 : Option Addr) (c0 : Nat) (l0 : List (S87)) (r : List (S41)) (w : World) (hr0 : Kd.C k87 w A0 l0.length l0) (hc0 : l0.length ≤ c0) (h : flyleafref15_Row.f k l0 = some r) :
    Calls Try.prog 116 #[.slice A0 l0.length c0] w fun e w' => ∃ v0_ : Value, e = .returned (v0_) ∧ Kd.R k41 41 w' w.heap.size (fun _ => True) v0_ r ∧ Below w.heap.size w w' := by
 have hu41 := Try.underlying41
 have HR0 := Aside0.mk hr0
 have HC0 := Aside0.mk hc0
 clear hr0 hc0
 have HB := Aside0.mk (Below.refl w.heap.size w)
 have H : (flyleafref15_Row.l0 k l0 ([] : List (S41)) 0) = some r := h
 clear h
 have H' := Aside0.mk H
 clear H
 go_enter Try.func116, Try.ntmps116
 go_wp2
 go_loopg [3, 4] k (fun kq v3 v4 w' => ∃ (x3_1 : List (S41)) (x4_1 : Int), v4 = .int .i64 x4_1 ∧ Aside0 (flyleafref15_Row.l0 kq l0 x3_1 x4_1 = some r) ∧ Aside0 (kq ≤ k) ∧ Aside0 (Kd.R k41 41 w' w.heap.size (fun _ => True) v3 x3_1) ∧ Aside0 (Below w.heap.size w w'))
 case atStart => exact ⟨(([] : List (S41))), (0), (by first | rfl | (simp; done) | (simp [*]; done)), H', ⟨Nat.le_refl _⟩, ⟨by first | exact Kd.R_nil _ _ _ _ _ | exact Kd.N_nil _ _ _ _ _ | exact Kd.V_nil _ _ _ _ _ | exact Kd.Q_nil _ _ _ _ _ | exact Kd.S_nil _ _ _ _ _⟩, ⟨by repeat (first | (with_reducible first | exact HB.out | apply below_alloc | apply pw_below_drewN | apply below_drew1) | exact HB.out)⟩⟩
 case round =>
  clear H'
  try clear c1
  obtain ⟨x3_1, x4_1, rfl, HA, HK1, HO_3, HB⟩ := hrel
  cases gk with
  | zero => exact absurd HA.out (by simp [flyleafref15_Row.l0])
  | succ k1 =>
   have H := HA.out
   clear HA
   simp only [flyleafref15_Row.l0] at H
   by_cases c2 : x4_1 < (l0.length : Int)
   rotate_left
   · rw [if_neg c2] at H
     have c2b0 : decide (x4_1 < (l0.length : Int)) = false := decide_eq_false c2
     clear c2
     obtain rfl := Option.some.inj H
     go_wp2
     go_ret
     exact ⟨_, by first | rfl | (simp [errW_none, errW_some] <;> rfl) | (simp [*, errW_none, errW_some] <;> rfl), by (with_reducible repeat (first | apply Kd.R_alloc | apply Kd.R_drewN | apply Kd.R_drew)); exact HO_3.out, by repeat (first | (with_reducible first | exact HB.out | apply below_alloc | apply pw_below_drewN | apply below_drew1) | exact HB.out)⟩
   rw [if_pos c2] at H
   have c2b0 : decide (x4_1 < (l0.length : Int)) = true := decide_eq_true c2
   clear c2
   by_cases c3 : 0 ≤ x4_1
   rotate_left
   · rw [if_neg c3] at H
     exact absurd H (by simp)
   rw [if_pos c3] at H
   have c3b0 : decide (0 ≤ x4_1) = true := decide_eq_true c3
   clear c3
   obtain ⟨bq4, hbq4⟩ : ∃ b_ : Bool, b_ = ((rd_T87 l0 x4_1).f1) := ⟨_, rfl⟩
   replace H : (if (bq4 = true) then (if (x3_1.length : Int) > 0 then (if 0 ≤ (wrap64 ((x3_1.length : Int) - 1)) then (if (wrap64 ((x3_1.length : Int) - 1)) < (x3_1.length : Int) then ((flyleafref15_one.f ((rd_T41 x3_1 (wrap64 ((x3_1.length : Int) - 1))).f0) ((rd_T41 x3_1 (wrap64 ((x3_1.length : Int) - 1))).f1) ((rd_T41 x3_1 (wrap64 ((x3_1.length : Int) - 1))).f2) ((rd_T41 x3_1 (wrap64 ((x3_1.length : Int) - 1))).f3) ((rd_T41 x3_1 (wrap64 ((x3_1.length : Int) - 1))).f4) ((rd_T41 x3_1 (wrap64 ((x3_1.length : Int) - 1))).f5) ((rd_T87 l0 x4_1).f0.f0) ((rd_T87 l0 x4_1).f0.f1) ((rd_T87 l0 x4_1).f0.f2) ((rd_T87 l0 x4_1).f0.f3) ((rd_T87 l0 x4_1).f0.f4) ((rd_T87 l0 x4_1).f0.f5)).bind fun t149 => (if t149 = true then (flyleafref15_Row.l0 k1 l0 (x3_1.set ((wrap64 ((x3_1.length : Int) - 1)) : Int).toNat (⟨(rd_T41 x3_1 (wrap64 ((x3_1.length : Int) - 1))).f0, (rd_T87 l0 x4_1).f0.f1, (rd_T41 x3_1 (wrap64 ((x3_1.length : Int) - 1))).f2, (rd_T41 x3_1 (wrap64 ((x3_1.length : Int) - 1))).f3, (rd_T41 x3_1 (wrap64 ((x3_1.length : Int) - 1))).f4, (rd_T41 x3_1 (wrap64 ((x3_1.length : Int) - 1))).f5⟩ : S41)) (wrap64 (x4_1 + 1))) else (if x3_1.length < 2932031007402 then (flyleafref15_Row.l0 k1 l0 (x3_1 ++ [(⟨(rd_T87 l0 x4_1).f0.f0, (rd_T87 l0 x4_1).f0.f1, (rd_T87 l0 x4_1).f0.f2, (rd_T87 l0 x4_1).f0.f3, (rd_T87 l0 x4_1).f0.f4, (rd_T87 l0 x4_1).f0.f5⟩ : S41)]) (wrap64 (x4_1 + 1))) else (none)))) else (none)) else (none)) else (if x3_1.length < 2932031007402 then (flyleafref15_Row.l0 k1 l0 (x3_1 ++ [(⟨(rd_T87 l0 x4_1).f0.f0, (rd_T87 l0 x4_1).f0.f1, (rd_T87 l0 x4_1).f0.f2, (rd_T87 l0 x4_1).f0.f3, (rd_T87 l0 x4_1).f0.f4, (rd_T87 l0 x4_1).f0.f5⟩ : S41)]) (wrap64 (x4_1 + 1))) else (none))) else (flyleafref15_Row.l0 k1 l0 x3_1 (wrap64 (x4_1 + 1)))) = some r := by rw [← hbq4] at H; exact H
   have Nbq4 := Aside0.mk hbq4
   clear hbq4
   by_cases c5 : (bq4 = true)
   rotate_left
   · replace c5 := Bool.eq_false_iff.mpr c5
     subst c5
     have H1 : (flyleafref15_Row.l0 k1 l0 x3_1 (wrap64 (x4_1 + 1))) = some r := by rw [if_neg (show ¬ (false = true) by decide)] at H; exact H
     clear H
     have H := H1
     clear H1
     have H' := Aside0.mk H
     clear H
     have p145 : 0 ≤ (x4_1 : Int) := of_decide_eq_true (by first | (with_reducible assumption) | assumption)
     have q145 : x4_1 < (l0.length : Int) := of_decide_eq_true (by first | (with_reducible assumption) | assumption)
     obtain ⟨ad145, e145, hx145_0, hx145_1, hx145_2, hx145_3, hx145_4, hx145_5, hx145_6⟩ := at_T87 HR0.out x4_1 p145 q145
     (try rw [← Nbq4.out] at hx145_6)
     cases e145
     replace hx145_0 := up_ hx145_0 HB.out
     replace hx145_1 := up_ hx145_1 HB.out
     replace hx145_2 := up_ hx145_2 HB.out
     replace hx145_3 := up_ hx145_3 HB.out
     replace hx145_4 := up_ hx145_4 HB.out
     replace hx145_5 := up_ hx145_5 HB.out
     replace hx145_6 := up_ hx145_6 HB.out
     replace p145 := eq_true p145
     replace q145 := eq_true q145
     go_wp2
     go_roundg k1
     case measure => have := HK1.out; omega
     case rel => exact ⟨(x3_1), (wrap64 (x4_1 + 1)), (by first | rfl | (simp; done) | (simp [*]; done)), H', ⟨by have := HK1.out; omega⟩, ⟨by (with_reducible repeat (first | apply Kd.R_alloc | apply Kd.R_drewN | apply Kd.R_drew)); exact HO_3.out⟩, ⟨by repeat (first | (with_reducible first | exact HB.out | apply below_alloc | apply pw_below_drewN | apply below_drew1) | exact HB.out)⟩⟩
   subst c5
   have H1 : (if (x3_1.length : Int) > 0 then (if 0 ≤ (wrap64 ((x3_1.length : Int) - 1)) then (if (wrap64 ((x3_1.length : Int) - 1)) < (x3_1.length : Int) then ((flyleafref15_one.f ((rd_T41 x3_1 (wrap64 ((x3_1.length : Int) - 1))).f0) ((rd_T41 x3_1 (wrap64 ((x3_1.length : Int) - 1))).f1) ((rd_T41 x3_1 (wrap64 ((x3_1.length : Int) - 1))).f2) ((rd_T41 x3_1 (wrap64 ((x3_1.length : Int) - 1))).f3) ((rd_T41 x3_1 (wrap64 ((x3_1.length : Int) - 1))).f4) ((rd_T41 x3_1 (wrap64 ((x3_1.length : Int) - 1))).f5) ((rd_T87 l0 x4_1).f0.f0) ((rd_T87 l0 x4_1).f0.f1) ((rd_T87 l0 x4_1).f0.f2) ((rd_T87 l0 x4_1).f0.f3) ((rd_T87 l0 x4_1).f0.f4) ((rd_T87 l0 x4_1).f0.f5)).bind fun t149 => (if t149 = true then (flyleafref15_Row.l0 k1 l0 (x3_1.set ((wrap64 ((x3_1.length : Int) - 1)) : Int).toNat (⟨(rd_T41 x3_1 (wrap64 ((x3_1.length : Int) - 1))).f0, (rd_T87 l0 x4_1).f0.f1, (rd_T41 x3_1 (wrap64 ((x3_1.length : Int) - 1))).f2, (rd_T41 x3_1 (wrap64 ((x3_1.length : Int) - 1))).f3, (rd_T41 x3_1 (wrap64 ((x3_1.length : Int) - 1))).f4, (rd_T41 x3_1 (wrap64 ((x3_1.length : Int) - 1))).f5⟩ : S41)) (wrap64 (x4_1 + 1))) else (if x3_1.length < 2932031007402 then (flyleafref15_Row.l0 k1 l0 (x3_1 ++ [(⟨(rd_T87 l0 x4_1).f0.f0, (rd_T87 l0 x4_1).f0.f1, (rd_T87 l0 x4_1).f0.f2, (rd_T87 l0 x4_1).f0.f3, (rd_T87 l0 x4_1).f0.f4, (rd_T87 l0 x4_1).f0.f5⟩ : S41)]) (wrap64 (x4_1 + 1))) else (none)))) else (none)) else (none)) else (if x3_1.length < 2932031007402 then (flyleafref15_Row.l0 k1 l0 (x3_1 ++ [(⟨(rd_T87 l0 x4_1).f0.f0, (rd_T87 l0 x4_1).f0.f1, (rd_T87 l0 x4_1).f0.f2, (rd_T87 l0 x4_1).f0.f3, (rd_T87 l0 x4_1).f0.f4, (rd_T87 l0 x4_1).f0.f5⟩ : S41)]) (wrap64 (x4_1 + 1))) else (none))) = some r := by rw [if_pos rfl] at H; exact H
   clear H
   have H := H1
   clear H1
   by_cases c6 : (x3_1.length : Int) > 0
   rotate_left
   · rw [if_neg c6] at H
     have c6b0 : decide (0 < (x3_1.length : Int)) = false := decide_eq_false c6
     have c6b1 : decide (0 < x3_1.length) = false := decide_eq_false (by omega)
     clear c6
     by_cases c31 : x3_1.length < 2932031007402
     rotate_left
     · rw [if_neg c31] at H
       exact absurd H (by simp)
     rw [if_pos c31] at H
     have LMc31 := Aside0.mk c31
     clear c31
     obtain ⟨y154, hy154⟩ : ∃ y_ : List (S41), y_ = (x3_1 ++ [(⟨(rd_T87 l0 x4_1).f0.f0, (rd_T87 l0 x4_1).f0.f1, (rd_T87 l0 x4_1).f0.f2, (rd_T87 l0 x4_1).f0.f3, (rd_T87 l0 x4_1).f0.f4, (rd_T87 l0 x4_1).f0.f5⟩ : S41)]) := ⟨_, rfl⟩
     replace H : (flyleafref15_Row.l0 k1 l0 y154 (wrap64 (x4_1 + 1))) = some r := by first | (rw [hy154]; with_reducible exact H) | (have H2_ := (Option.bind_some _ _).symm.trans H; rw [hy154]; with_reducible exact H2_) | (have H2_ := (Option.bind_some _ _).symm.trans H; with_reducible exact H2_) | with_reducible exact H | (rw [hy154]; exact H) | exact H
     have Ny154 := Aside0.mk hy154
     clear hy154
     have H' := Aside0.mk H
     clear H
     have p145 : 0 ≤ (x4_1 : Int) := of_decide_eq_true (by first | (with_reducible assumption) | assumption)
     have q145 : x4_1 < (l0.length : Int) := of_decide_eq_true (by first | (with_reducible assumption) | assumption)
     obtain ⟨ad145, e145, hx145_0, hx145_1, hx145_2, hx145_3, hx145_4, hx145_5, hx145_6⟩ := at_T87 HR0.out x4_1 p145 q145
     (try rw [← Nbq4.out] at hx145_6)
     cases e145
     replace hx145_0 := up_ hx145_0 HB.out
     replace hx145_1 := up_ hx145_1 HB.out
     replace hx145_2 := up_ hx145_2 HB.out
     replace hx145_3 := up_ hx145_3 HB.out
     replace hx145_4 := up_ hx145_4 HB.out
     replace hx145_5 := up_ hx145_5 HB.out
     replace hx145_6 := up_ hx145_6 HB.out
     replace p145 := eq_true p145
     replace q145 := eq_true q145
     have p146 : 0 ≤ (x4_1 : Int) := of_decide_eq_true (by first | (with_reducible assumption) | assumption)
     have q146 : x4_1 < (l0.length : Int) := of_decide_eq_true (by first | (with_reducible assumption) | assumption)
     obtain ⟨ad146, e146, hx146_0, hx146_1, hx146_2, hx146_3, hx146_4, hx146_5, hx146_6⟩ := at_T87 HR0.out x4_1 p146 q146
     (try rw [← Nbq4.out] at hx146_6)
     obtain rfl : ad145 = ad146 := (by injection e146)
     replace hx146_0 := up_ hx146_0 HB.out
     replace hx146_1 := up_ hx146_1 HB.out
     replace hx146_2 := up_ hx146_2 HB.out
     replace hx146_3 := up_ hx146_3 HB.out
     replace hx146_4 := up_ hx146_4 HB.out
     replace hx146_5 := up_ hx146_5 HB.out
     replace hx146_6 := up_ hx146_6 HB.out
     replace p146 := eq_true p146
     replace q146 := eq_true q146
     go_wp2_with (first | ((with_reducible refine gate_dst (N := 5) rfl ?_); refine box_event ?hg (N := 5) ?hd (cs := #[.int .i64 0, .int .i64 0, .int .i64 0, .int .i64 0, .int .i64 0, .int .i64 0]) (t := 41) ?hr ?_; (case hd => rfl); (case hg => rfl); (case hr => first | (go_simp; done) | (go_simp; rfl)); intro gb147 hg w32 hbox hb; have n0_ := Aside0.mk (Kd.R_below (Kd.R_elderB (by (with_reducible repeat (first | apply Kd.R_alloc | apply Kd.R_drewN | apply Kd.R_drew)); exact HO_3.out) gb147 (Nat.le_of_eq hg.symm)) hb); have n1_ := Aside0.mk (below_step (by repeat (first | (with_reducible first | exact HB.out | apply below_alloc | apply pw_below_drewN | apply below_drew1) | exact HB.out)) hb); have n2_ := Aside0.mk (hbox); have n3_ := Aside0.mk ((by rw [hg]; exact (below_size (by repeat (first | (with_reducible first | exact HB.out | apply below_alloc | apply pw_below_drewN | apply below_drew1) | exact HB.out))) : w.heap.size ≤ gb147)); have n4_ := Aside0.mk ((by rw [hg]; exact (below_size (by repeat (first | (with_reducible first | exact HB.out | apply below_alloc | apply pw_below_drewN | apply below_drew1) | exact HB.out))) : w.heap.size ≤ gb147)); clear HO_3; clear HB; have HO_3 := n0_; have HB := n1_; have BK147 := n2_; have GW147 := n3_; have GE147 := n4_; clear n0_ n1_ n2_ n3_ n4_; clear hb hbox hg; have hcz33_0 : w32.cell? ⟨gb147, 0, none⟩ = some (.int .i64 0) := (blk_cell BK147.out 0).trans rfl; have hcz33_1 : w32.cell? ⟨gb147, 1, none⟩ = some (.int .i64 0) := (blk_cell BK147.out 1).trans rfl; have hcz33_2 : w32.cell? ⟨gb147, 2, none⟩ = some (.int .i64 0) := (blk_cell BK147.out 2).trans rfl; have hcz33_3 : w32.cell? ⟨gb147, 3, none⟩ = some (.int .i64 0) := (blk_cell BK147.out 3).trans rfl; have hcz33_4 : w32.cell? ⟨gb147, 4, none⟩ = some (.int .i64 0) := (blk_cell BK147.out 4).trans rfl; have hcz33_5 : w32.cell? ⟨gb147, 5, none⟩ = some (.int .i64 0) := (blk_cell BK147.out 5).trans rfl; have hfz33_0 := blk_frozen BK147.out 0; have hfz33_1 := blk_frozen BK147.out 1; have hfz33_2 := blk_frozen BK147.out 2; have hfz33_3 := blk_frozen BK147.out 3; have hfz33_4 := blk_frozen BK147.out 4; have hfz33_5 := blk_frozen BK147.out 5; obtain ⟨Ao34, co34, eo34⟩ := Kd.R_slice HO_3.out; subst eo34) | ((with_reducible refine gate_builtin (b := .append) (xs := #[.tmp 44, .tmp 46]) rfl ?_); at_builtin; refine Kd.R_append k41 (w0 := w) w.heap.size rfl (.tmp 44) (.tmp 46) 43 41 (.agg #[(.int .i64 0), (.int .i64 0), (.int .i64 0), (.int .i64 0), (.int .i64 0), (.int .i64 0)]) 48 rfl Try.underlying43 info41 rfl (by decide) (by omega) (.slice Ao34 x3_1.length co34) x3_1 (⟨(rd_T87 l0 x4_1).f0.f0, (rd_T87 l0 x4_1).f0.f1, (rd_T87 l0 x4_1).f0.f2, (rd_T87 l0 x4_1).f0.f3, (rd_T87 l0 x4_1).f0.f4, (rd_T87 l0 x4_1).f0.f5⟩ : S41) [.int .i64 ((rd_T87 l0 x4_1).f0.f0), .int .i64 ((rd_T87 l0 x4_1).f0.f1), .int .i64 ((rd_T87 l0 x4_1).f0.f2), .int .i64 ((rd_T87 l0 x4_1).f0.f3), .int .i64 ((rd_T87 l0 x4_1).f0.f4), .int .i64 ((rd_T87 l0 x4_1).f0.f5)] (fun k_ => k_ ≠ gb147) (fun _ => False) rfl (by first | (go_simp; done) | (go_simp; rfl)) ?aP (fun _ hk => hk.elim) ?aF ?aO ?aB ?aS ?aL ?_; (case aP => exact k41_mkM _ _ _ (⟨(rd_T87 l0 x4_1).f0.f0, (rd_T87 l0 x4_1).f0.f1, (rd_T87 l0 x4_1).f0.f2, (rd_T87 l0 x4_1).f0.f3, (rd_T87 l0 x4_1).f0.f4, (rd_T87 l0 x4_1).f0.f5⟩ : S41)); (case aB => exact (by repeat (first | (with_reducible first | exact HB.out | apply below_alloc | apply pw_below_drewN | apply below_drew1 | refine below_set ?_ GE147.out) | exact HB.out))); (case aF => exact (fun k_ hk => Kd.freshB (g := gb147) (o := .cells #[.int .i64 ((rd_T87 l0 x4_1).f0.f0), .int .i64 ((rd_T87 l0 x4_1).f0.f1), .int .i64 ((rd_T87 l0 x4_1).f0.f2), .int .i64 ((rd_T87 l0 x4_1).f0.f3), .int .i64 ((rd_T87 l0 x4_1).f0.f4), .int .i64 ((rd_T87 l0 x4_1).f0.f5)] 41 (0, 0)) (by (with_reducible repeat (first | refine blk_drewN ?_ _ | refine blk_drew ?_ | refine blk_alloc ?_ _)); refine blk_put (cs := #[.int .i64 ((rd_T87 l0 x4_1).f0.f0), .int .i64 ((rd_T87 l0 x4_1).f0.f1), .int .i64 ((rd_T87 l0 x4_1).f0.f2), .int .i64 ((rd_T87 l0 x4_1).f0.f3), .int .i64 ((rd_T87 l0 x4_1).f0.f4), .int .i64 0]) ?_ 5 _ rfl; (with_reducible repeat (first | refine blk_drewN ?_ _ | refine blk_drew ?_ | refine blk_alloc ?_ _)); refine blk_put (cs := #[.int .i64 ((rd_T87 l0 x4_1).f0.f0), .int .i64 ((rd_T87 l0 x4_1).f0.f1), .int .i64 ((rd_T87 l0 x4_1).f0.f2), .int .i64 ((rd_T87 l0 x4_1).f0.f3), .int .i64 0, .int .i64 0]) ?_ 4 _ rfl; (with_reducible repeat (first | refine blk_drewN ?_ _ | refine blk_drew ?_ | refine blk_alloc ?_ _)); refine blk_put (cs := #[.int .i64 ((rd_T87 l0 x4_1).f0.f0), .int .i64 ((rd_T87 l0 x4_1).f0.f1), .int .i64 ((rd_T87 l0 x4_1).f0.f2), .int .i64 0, .int .i64 0, .int .i64 0]) ?_ 3 _ rfl; (with_reducible repeat (first | refine blk_drewN ?_ _ | refine blk_drew ?_ | refine blk_alloc ?_ _)); refine blk_put (cs := #[.int .i64 ((rd_T87 l0 x4_1).f0.f0), .int .i64 ((rd_T87 l0 x4_1).f0.f1), .int .i64 0, .int .i64 0, .int .i64 0, .int .i64 0]) ?_ 2 _ rfl; (with_reducible repeat (first | refine blk_drewN ?_ _ | refine blk_drew ?_ | refine blk_alloc ?_ _)); refine blk_put (cs := #[.int .i64 ((rd_T87 l0 x4_1).f0.f0), .int .i64 0, .int .i64 0, .int .i64 0, .int .i64 0, .int .i64 0]) ?_ 1 _ rfl; (with_reducible repeat (first | refine blk_drewN ?_ _ | refine blk_drew ?_ | refine blk_alloc ?_ _)); refine blk_put (cs := #[.int .i64 0, .int .i64 0, .int .i64 0, .int .i64 0, .int .i64 0, .int .i64 0]) ?_ 0 _ rfl; (with_reducible repeat (first | refine blk_drewN ?_ _ | refine blk_drew ?_ | refine blk_alloc ?_ _)); exact BK147.out) k_ hk)); (case aO => exact (by (with_reducible repeat (first | apply Kd.R_alloc | apply Kd.R_drewN | apply Kd.R_drew)); exact Kd.R_mono (Kd.R_far (p := ⟨gb147, 5, none⟩) (Kd.R_far (p := ⟨gb147, 4, none⟩) (Kd.R_far (p := ⟨gb147, 3, none⟩) (Kd.R_far (p := ⟨gb147, 2, none⟩) (Kd.R_far (p := ⟨gb147, 1, none⟩) (Kd.R_far (p := ⟨gb147, 0, none⟩) (Kd.R_mono HO_3.out (fun k_ hk => (⟨hk, hk.2⟩ : _ ∧ k_ ≠ gb147))) (fun _ hk => hk.2) (.int .i64 ((rd_T87 l0 x4_1).f0.f0))) (fun _ hk => hk.2) (.int .i64 ((rd_T87 l0 x4_1).f0.f1))) (fun _ hk => hk.2) (.int .i64 ((rd_T87 l0 x4_1).f0.f2))) (fun _ hk => hk.2) (.int .i64 ((rd_T87 l0 x4_1).f0.f3))) (fun _ hk => hk.2) (.int .i64 ((rd_T87 l0 x4_1).f0.f4))) (fun _ hk => hk.2) (.int .i64 ((rd_T87 l0 x4_1).f0.f5))) (fun _ hk => hk.1.2))); (case aS => exact (below_size (by repeat (first | (with_reducible first | exact HB.out | apply below_alloc | apply pw_below_drewN | apply below_drew1 | refine below_set ?_ GE147.out) | exact HB.out)))); (case aL => have := LMc31.out; omega); intro v155 w35 ho hb hg hat; rw [← Ny154.out] at ho; have n0_ := Aside0.mk (blk_grown (g := gb147) (o := .cells #[.int .i64 ((rd_T87 l0 x4_1).f0.f0), .int .i64 ((rd_T87 l0 x4_1).f0.f1), .int .i64 ((rd_T87 l0 x4_1).f0.f2), .int .i64 ((rd_T87 l0 x4_1).f0.f3), .int .i64 ((rd_T87 l0 x4_1).f0.f4), .int .i64 ((rd_T87 l0 x4_1).f0.f5)] 41 (0, 0)) (by (with_reducible repeat (first | refine blk_drewN ?_ _ | refine blk_drew ?_ | refine blk_alloc ?_ _)); refine blk_put (cs := #[.int .i64 ((rd_T87 l0 x4_1).f0.f0), .int .i64 ((rd_T87 l0 x4_1).f0.f1), .int .i64 ((rd_T87 l0 x4_1).f0.f2), .int .i64 ((rd_T87 l0 x4_1).f0.f3), .int .i64 ((rd_T87 l0 x4_1).f0.f4), .int .i64 0]) ?_ 5 _ rfl; (with_reducible repeat (first | refine blk_drewN ?_ _ | refine blk_drew ?_ | refine blk_alloc ?_ _)); refine blk_put (cs := #[.int .i64 ((rd_T87 l0 x4_1).f0.f0), .int .i64 ((rd_T87 l0 x4_1).f0.f1), .int .i64 ((rd_T87 l0 x4_1).f0.f2), .int .i64 ((rd_T87 l0 x4_1).f0.f3), .int .i64 0, .int .i64 0]) ?_ 4 _ rfl; (with_reducible repeat (first | refine blk_drewN ?_ _ | refine blk_drew ?_ | refine blk_alloc ?_ _)); refine blk_put (cs := #[.int .i64 ((rd_T87 l0 x4_1).f0.f0), .int .i64 ((rd_T87 l0 x4_1).f0.f1), .int .i64 ((rd_T87 l0 x4_1).f0.f2), .int .i64 0, .int .i64 0, .int .i64 0]) ?_ 3 _ rfl; (with_reducible repeat (first | refine blk_drewN ?_ _ | refine blk_drew ?_ | refine blk_alloc ?_ _)); refine blk_put (cs := #[.int .i64 ((rd_T87 l0 x4_1).f0.f0), .int .i64 ((rd_T87 l0 x4_1).f0.f1), .int .i64 0, .int .i64 0, .int .i64 0, .int .i64 0]) ?_ 2 _ rfl; (with_reducible repeat (first | refine blk_drewN ?_ _ | refine blk_drew ?_ | refine blk_alloc ?_ _)); refine blk_put (cs := #[.int .i64 ((rd_T87 l0 x4_1).f0.f0), .int .i64 0, .int .i64 0, .int .i64 0, .int .i64 0, .int .i64 0]) ?_ 1 _ rfl; (with_reducible repeat (first | refine blk_drewN ?_ _ | refine blk_drew ?_ | refine blk_alloc ?_ _)); refine blk_put (cs := #[.int .i64 0, .int .i64 0, .int .i64 0, .int .i64 0, .int .i64 0, .int .i64 0]) ?_ 0 _ rfl; (with_reducible repeat (first | refine blk_drewN ?_ _ | refine blk_drew ?_ | refine blk_alloc ?_ _)); exact BK147.out) hg (Kd.R_away HO_3.out (fun _ hk => hk.2))); have n1_ := Aside0.mk (hb); have n2_ := Aside0.mk (ho); clear BK147; clear HB; clear HO_3; have BK147 := n0_; have HB := n1_; have HO156 := n2_; clear n0_ n1_ n2_; clear ho hb hg hat))
     go_roundg k1
     case measure => have := HK1.out; omega
     case rel => exact ⟨(y154), (wrap64 (x4_1 + 1)), (by first | rfl | (simp; done) | (simp [*]; done)), H', ⟨by have := HK1.out; omega⟩, ⟨by (with_reducible repeat (first | apply Kd.R_alloc | apply Kd.R_drewN | apply Kd.R_drew)); exact Kd.R_mono HO156.out (fun _ hk => trivial)⟩, ⟨by repeat (first | (with_reducible first | exact HB.out | apply below_alloc | apply pw_below_drewN | apply below_drew1 | refine below_set ?_ GE147.out) | exact HB.out)⟩⟩
   rw [if_pos c6] at H
   have c6b0 : decide (0 < (x3_1.length : Int)) = true := decide_eq_true c6
   have c6b1 : decide (0 < x3_1.length) = true := decide_eq_true (by omega)
   clear c6
   obtain ⟨ji7, hji7⟩ : ∃ j_ : Int, (wrap64 ((x3_1.length : Int) - 1)) = j_ := ⟨_, rfl⟩
   replace H : (if 0 ≤ (ji7) then (if (ji7) < (x3_1.length : Int) then ((flyleafref15_one.f ((rd_T41 x3_1 (ji7)).f0) ((rd_T41 x3_1 (ji7)).f1) ((rd_T41 x3_1 (ji7)).f2) ((rd_T41 x3_1 (ji7)).f3) ((rd_T41 x3_1 (ji7)).f4) ((rd_T41 x3_1 (ji7)).f5) ((rd_T87 l0 x4_1).f0.f0) ((rd_T87 l0 x4_1).f0.f1) ((rd_T87 l0 x4_1).f0.f2) ((rd_T87 l0 x4_1).f0.f3) ((rd_T87 l0 x4_1).f0.f4) ((rd_T87 l0 x4_1).f0.f5)).bind fun t149 => (if t149 = true then (flyleafref15_Row.l0 k1 l0 (x3_1.set ((ji7) : Int).toNat (⟨(rd_T41 x3_1 (ji7)).f0, (rd_T87 l0 x4_1).f0.f1, (rd_T41 x3_1 (ji7)).f2, (rd_T41 x3_1 (ji7)).f3, (rd_T41 x3_1 (ji7)).f4, (rd_T41 x3_1 (ji7)).f5⟩ : S41)) (wrap64 (x4_1 + 1))) else (if x3_1.length < 2932031007402 then (flyleafref15_Row.l0 k1 l0 (x3_1 ++ [(⟨(rd_T87 l0 x4_1).f0.f0, (rd_T87 l0 x4_1).f0.f1, (rd_T87 l0 x4_1).f0.f2, (rd_T87 l0 x4_1).f0.f3, (rd_T87 l0 x4_1).f0.f4, (rd_T87 l0 x4_1).f0.f5⟩ : S41)]) (wrap64 (x4_1 + 1))) else (none)))) else (none)) else (none)) = some r := by first | (rw [hji7] at H; exact H) | (simp only [hji7] at H ⊢; exact H)
   have hji7w : (IntKind.i64.wrap ((x3_1.length : Int) - 1)) = ji7 := (i64_w _).trans hji7
   by_cases c8 : 0 ≤ (ji7)
   rotate_left
   · rw [if_neg c8] at H
     exact absurd H (by simp)
   rw [if_pos c8] at H
   have c8b0 : decide (0 ≤ (ji7)) = true := decide_eq_true c8
   clear c8
   by_cases c9 : (ji7) < (x3_1.length : Int)
   rotate_left
   · rw [if_neg c9] at H
     exact absurd H (by simp)
   rw [if_pos c9] at H
   have c9b0 : decide ((ji7) < (x3_1.length : Int)) = true := decide_eq_true c9
   clear c9
   replace H := Option.bind_eq_some_iff.mp H
   obtain ⟨t149, A100, H⟩ := H
   replace H : (if t149 = true then (flyleafref15_Row.l0 k1 l0 (x3_1.set ((ji7) : Int).toNat (⟨(rd_T41 x3_1 (ji7)).f0, (rd_T87 l0 x4_1).f0.f1, (rd_T41 x3_1 (ji7)).f2, (rd_T41 x3_1 (ji7)).f3, (rd_T41 x3_1 (ji7)).f4, (rd_T41 x3_1 (ji7)).f5⟩ : S41)) (wrap64 (x4_1 + 1))) else (if x3_1.length < 2932031007402 then (flyleafref15_Row.l0 k1 l0 (x3_1 ++ [(⟨(rd_T87 l0 x4_1).f0.f0, (rd_T87 l0 x4_1).f0.f1, (rd_T87 l0 x4_1).f0.f2, (rd_T87 l0 x4_1).f0.f3, (rd_T87 l0 x4_1).f0.f4, (rd_T87 l0 x4_1).f0.f5⟩ : S41)]) (wrap64 (x4_1 + 1))) else (none))) = some r := H
   have A10 := Aside0.mk A100
   clear A100
   by_cases c11 : t149 = true
   rotate_left
   · replace c11 := Bool.eq_false_iff.mpr c11
     subst c11
     have H1 : (if x3_1.length < 2932031007402 then (flyleafref15_Row.l0 k1 l0 (x3_1 ++ [(⟨(rd_T87 l0 x4_1).f0.f0, (rd_T87 l0 x4_1).f0.f1, (rd_T87 l0 x4_1).f0.f2, (rd_T87 l0 x4_1).f0.f3, (rd_T87 l0 x4_1).f0.f4, (rd_T87 l0 x4_1).f0.f5⟩ : S41)]) (wrap64 (x4_1 + 1))) else (none)) = some r := by rw [if_neg (show ¬ (false = true) by decide)] at H; exact H
     clear H
     have H := H1
     clear H1
     by_cases c22 : x3_1.length < 2932031007402
     rotate_left
     · rw [if_neg c22] at H
       exact absurd H (by simp)
     rw [if_pos c22] at H
     have LMc22 := Aside0.mk c22
     clear c22
     obtain ⟨y151, hy151⟩ : ∃ y_ : List (S41), y_ = (x3_1 ++ [(⟨(rd_T87 l0 x4_1).f0.f0, (rd_T87 l0 x4_1).f0.f1, (rd_T87 l0 x4_1).f0.f2, (rd_T87 l0 x4_1).f0.f3, (rd_T87 l0 x4_1).f0.f4, (rd_T87 l0 x4_1).f0.f5⟩ : S41)]) := ⟨_, rfl⟩
     replace H : (flyleafref15_Row.l0 k1 l0 y151 (wrap64 (x4_1 + 1))) = some r := by first | (rw [hy151]; with_reducible exact H) | (have H2_ := (Option.bind_some _ _).symm.trans H; rw [hy151]; with_reducible exact H2_) | (have H2_ := (Option.bind_some _ _).symm.trans H; with_reducible exact H2_) | with_reducible exact H | (rw [hy151]; exact H) | exact H
     have Ny151 := Aside0.mk hy151
     clear hy151
     have H' := Aside0.mk H
     clear H
     have p145 : 0 ≤ (x4_1 : Int) := of_decide_eq_true (by first | (with_reducible assumption) | assumption)
     have q145 : x4_1 < (l0.length : Int) := of_decide_eq_true (by first | (with_reducible assumption) | assumption)
     obtain ⟨ad145, e145, hx145_0, hx145_1, hx145_2, hx145_3, hx145_4, hx145_5, hx145_6⟩ := at_T87 HR0.out x4_1 p145 q145
     (try rw [← Nbq4.out] at hx145_6)
     cases e145
     replace hx145_0 := up_ hx145_0 HB.out
     replace hx145_1 := up_ hx145_1 HB.out
     replace hx145_2 := up_ hx145_2 HB.out
     replace hx145_3 := up_ hx145_3 HB.out
     replace hx145_4 := up_ hx145_4 HB.out
     replace hx145_5 := up_ hx145_5 HB.out
     replace hx145_6 := up_ hx145_6 HB.out
     replace p145 := eq_true p145
     replace q145 := eq_true q145
     have p146 : 0 ≤ (x4_1 : Int) := of_decide_eq_true (by first | (with_reducible assumption) | assumption)
     have q146 : x4_1 < (l0.length : Int) := of_decide_eq_true (by first | (with_reducible assumption) | assumption)
     obtain ⟨ad146, e146, hx146_0, hx146_1, hx146_2, hx146_3, hx146_4, hx146_5, hx146_6⟩ := at_T87 HR0.out x4_1 p146 q146
     (try rw [← Nbq4.out] at hx146_6)
     obtain rfl : ad145 = ad146 := (by injection e146)
     replace hx146_0 := up_ hx146_0 HB.out
     replace hx146_1 := up_ hx146_1 HB.out
     replace hx146_2 := up_ hx146_2 HB.out
     replace hx146_3 := up_ hx146_3 HB.out
     replace hx146_4 := up_ hx146_4 HB.out
     replace hx146_5 := up_ hx146_5 HB.out
     replace hx146_6 := up_ hx146_6 HB.out
     replace p146 := eq_true p146
     replace q146 := eq_true q146
     try go_wp2_with (first | ((with_reducible refine gate_dst (N := 5) rfl ?_); refine box_event ?hg (N := 5) ?hd (cs := #[.int .i64 0, .int .i64 0, .int .i64 0, .int .i64 0, .int .i64 0, .int .i64 0]) (t := 41) ?hr ?_; (case hd => rfl); (case hg => rfl); (case hr => first | (go_simp; done) | (go_simp; rfl)); intro gb147 hg w23 hbox hb; have n0_ := Aside0.mk (Kd.R_below (Kd.R_elderB (by (with_reducible repeat (first | apply Kd.R_alloc | apply Kd.R_drewN | apply Kd.R_drew)); exact HO_3.out) gb147 (Nat.le_of_eq hg.symm)) hb); have n1_ := Aside0.mk (below_step (by repeat (first | (with_reducible first | exact HB.out | apply below_alloc | apply pw_below_drewN | apply below_drew1) | exact HB.out)) hb); have n2_ := Aside0.mk (hbox); have n3_ := Aside0.mk ((by rw [hg]; exact (below_size (by repeat (first | (with_reducible first | exact HB.out | apply below_alloc | apply pw_below_drewN | apply below_drew1) | exact HB.out))) : w.heap.size ≤ gb147)); have n4_ := Aside0.mk ((by rw [hg]; exact (below_size (by repeat (first | (with_reducible first | exact HB.out | apply below_alloc | apply pw_below_drewN | apply below_drew1) | exact HB.out))) : w.heap.size ≤ gb147)); clear HO_3; clear HB; have HO_3 := n0_; have HB := n1_; have BK147 := n2_; have GW147 := n3_; have GE147 := n4_; clear n0_ n1_ n2_ n3_ n4_; clear hb hbox hg; have hcz24_0 : w23.cell? ⟨gb147, 0, none⟩ = some (.int .i64 0) := (blk_cell BK147.out 0).trans rfl; have hcz24_1 : w23.cell? ⟨gb147, 1, none⟩ = some (.int .i64 0) := (blk_cell BK147.out 1).trans rfl; have hcz24_2 : w23.cell? ⟨gb147, 2, none⟩ = some (.int .i64 0) := (blk_cell BK147.out 2).trans rfl; have hcz24_3 : w23.cell? ⟨gb147, 3, none⟩ = some (.int .i64 0) := (blk_cell BK147.out 3).trans rfl; have hcz24_4 : w23.cell? ⟨gb147, 4, none⟩ = some (.int .i64 0) := (blk_cell BK147.out 4).trans rfl; have hcz24_5 : w23.cell? ⟨gb147, 5, none⟩ = some (.int .i64 0) := (blk_cell BK147.out 5).trans rfl; have hfz24_0 := blk_frozen BK147.out 0; have hfz24_1 := blk_frozen BK147.out 1; have hfz24_2 := blk_frozen BK147.out 2; have hfz24_3 := blk_frozen BK147.out 3; have hfz24_4 := blk_frozen BK147.out 4; have hfz24_5 := blk_frozen BK147.out 5; obtain ⟨Ao25, co25, eo25⟩ := Kd.R_slice HO_3.out; subst eo25))
     have n0_ : Aside0 (Kd.R k41 41 ((((((w23.setCell ⟨gb147, 0, none⟩ (.int .i64 ((rd_T87 l0 x4_1).f0.f0))).setCell ⟨gb147, 1, none⟩ (.int .i64 ((rd_T87 l0 x4_1).f0.f1))).setCell ⟨gb147, 2, none⟩ (.int .i64 ((rd_T87 l0 x4_1).f0.f2))).setCell ⟨gb147, 3, none⟩ (.int .i64 ((rd_T87 l0 x4_1).f0.f3))).setCell ⟨gb147, 4, none⟩ (.int .i64 ((rd_T87 l0 x4_1).f0.f4))).setCell ⟨gb147, 5, none⟩ (.int .i64 ((rd_T87 l0 x4_1).f0.f5))) w.heap.size (fun k_ => k_ ≠ gb147) (.slice Ao25 x3_1.length co25) x3_1) := ⟨by (with_reducible repeat (first | apply Kd.R_alloc | apply Kd.R_drewN | apply Kd.R_drew)); exact Kd.R_mono (Kd.R_far (p := ⟨gb147, 5, none⟩) (Kd.R_far (p := ⟨gb147, 4, none⟩) (Kd.R_far (p := ⟨gb147, 3, none⟩) (Kd.R_far (p := ⟨gb147, 2, none⟩) (Kd.R_far (p := ⟨gb147, 1, none⟩) (Kd.R_far (p := ⟨gb147, 0, none⟩) (Kd.R_mono HO_3.out (fun k_ hk => (⟨hk, hk.2⟩ : _ ∧ k_ ≠ gb147))) (fun _ hk => hk.2) (.int .i64 ((rd_T87 l0 x4_1).f0.f0))) (fun _ hk => hk.2) (.int .i64 ((rd_T87 l0 x4_1).f0.f1))) (fun _ hk => hk.2) (.int .i64 ((rd_T87 l0 x4_1).f0.f2))) (fun _ hk => hk.2) (.int .i64 ((rd_T87 l0 x4_1).f0.f3))) (fun _ hk => hk.2) (.int .i64 ((rd_T87 l0 x4_1).f0.f4))) (fun _ hk => hk.2) (.int .i64 ((rd_T87 l0 x4_1).f0.f5))) (fun _ hk => hk.1.2)⟩
     have n1_ : Aside0 (((((((w23.setCell ⟨gb147, 0, none⟩ (.int .i64 ((rd_T87 l0 x4_1).f0.f0))).setCell ⟨gb147, 1, none⟩ (.int .i64 ((rd_T87 l0 x4_1).f0.f1))).setCell ⟨gb147, 2, none⟩ (.int .i64 ((rd_T87 l0 x4_1).f0.f2))).setCell ⟨gb147, 3, none⟩ (.int .i64 ((rd_T87 l0 x4_1).f0.f3))).setCell ⟨gb147, 4, none⟩ (.int .i64 ((rd_T87 l0 x4_1).f0.f4))).setCell ⟨gb147, 5, none⟩ (.int .i64 ((rd_T87 l0 x4_1).f0.f5))).heap[gb147]? = some (.cells #[.int .i64 ((rd_T87 l0 x4_1).f0.f0), .int .i64 ((rd_T87 l0 x4_1).f0.f1), .int .i64 ((rd_T87 l0 x4_1).f0.f2), .int .i64 ((rd_T87 l0 x4_1).f0.f3), .int .i64 ((rd_T87 l0 x4_1).f0.f4), .int .i64 ((rd_T87 l0 x4_1).f0.f5)] 41 (0, 0))) := ⟨by (with_reducible repeat (first | refine blk_drewN ?_ _ | refine blk_drew ?_ | refine blk_alloc ?_ _)); refine blk_put (cs := #[.int .i64 ((rd_T87 l0 x4_1).f0.f0), .int .i64 ((rd_T87 l0 x4_1).f0.f1), .int .i64 ((rd_T87 l0 x4_1).f0.f2), .int .i64 ((rd_T87 l0 x4_1).f0.f3), .int .i64 ((rd_T87 l0 x4_1).f0.f4), .int .i64 0]) ?_ 5 _ rfl; (with_reducible repeat (first | refine blk_drewN ?_ _ | refine blk_drew ?_ | refine blk_alloc ?_ _)); refine blk_put (cs := #[.int .i64 ((rd_T87 l0 x4_1).f0.f0), .int .i64 ((rd_T87 l0 x4_1).f0.f1), .int .i64 ((rd_T87 l0 x4_1).f0.f2), .int .i64 ((rd_T87 l0 x4_1).f0.f3), .int .i64 0, .int .i64 0]) ?_ 4 _ rfl; (with_reducible repeat (first | refine blk_drewN ?_ _ | refine blk_drew ?_ | refine blk_alloc ?_ _)); refine blk_put (cs := #[.int .i64 ((rd_T87 l0 x4_1).f0.f0), .int .i64 ((rd_T87 l0 x4_1).f0.f1), .int .i64 ((rd_T87 l0 x4_1).f0.f2), .int .i64 0, .int .i64 0, .int .i64 0]) ?_ 3 _ rfl; (with_reducible repeat (first | refine blk_drewN ?_ _ | refine blk_drew ?_ | refine blk_alloc ?_ _)); refine blk_put (cs := #[.int .i64 ((rd_T87 l0 x4_1).f0.f0), .int .i64 ((rd_T87 l0 x4_1).f0.f1), .int .i64 0, .int .i64 0, .int .i64 0, .int .i64 0]) ?_ 2 _ rfl; (with_reducible repeat (first | refine blk_drewN ?_ _ | refine blk_drew ?_ | refine blk_alloc ?_ _)); refine blk_put (cs := #[.int .i64 ((rd_T87 l0 x4_1).f0.f0), .int .i64 0, .int .i64 0, .int .i64 0, .int .i64 0, .int .i64 0]) ?_ 1 _ rfl; (with_reducible repeat (first | refine blk_drewN ?_ _ | refine blk_drew ?_ | refine blk_alloc ?_ _)); refine blk_put (cs := #[.int .i64 0, .int .i64 0, .int .i64 0, .int .i64 0, .int .i64 0, .int .i64 0]) ?_ 0 _ rfl; (with_reducible repeat (first | refine blk_drewN ?_ _ | refine blk_drew ?_ | refine blk_alloc ?_ _)); exact BK147.out⟩
     have n2_ : Aside0 (Below w.heap.size w ((((((w23.setCell ⟨gb147, 0, none⟩ (.int .i64 ((rd_T87 l0 x4_1).f0.f0))).setCell ⟨gb147, 1, none⟩ (.int .i64 ((rd_T87 l0 x4_1).f0.f1))).setCell ⟨gb147, 2, none⟩ (.int .i64 ((rd_T87 l0 x4_1).f0.f2))).setCell ⟨gb147, 3, none⟩ (.int .i64 ((rd_T87 l0 x4_1).f0.f3))).setCell ⟨gb147, 4, none⟩ (.int .i64 ((rd_T87 l0 x4_1).f0.f4))).setCell ⟨gb147, 5, none⟩ (.int .i64 ((rd_T87 l0 x4_1).f0.f5)))) := ⟨by repeat (first | (with_reducible first | exact HB.out | apply below_alloc | apply pw_below_drewN | apply below_drew1 | refine below_set ?_ GE147.out) | exact HB.out)⟩
     (try clear HO_3)
     (try clear BK147)
     (try clear HB)
     generalize ((((((w23.setCell ⟨gb147, 0, none⟩ (.int .i64 ((rd_T87 l0 x4_1).f0.f0))).setCell ⟨gb147, 1, none⟩ (.int .i64 ((rd_T87 l0 x4_1).f0.f1))).setCell ⟨gb147, 2, none⟩ (.int .i64 ((rd_T87 l0 x4_1).f0.f2))).setCell ⟨gb147, 3, none⟩ (.int .i64 ((rd_T87 l0 x4_1).f0.f3))).setCell ⟨gb147, 4, none⟩ (.int .i64 ((rd_T87 l0 x4_1).f0.f4))).setCell ⟨gb147, 5, none⟩ (.int .i64 ((rd_T87 l0 x4_1).f0.f5))) = w26 at n0_ n1_ n2_ ⊢
     have HO_3 := n0_
     have BK147 := n1_
     have HB := n2_
     clear n0_ n1_ n2_
     have n0_ := Aside0.mk (Kd.R_drew HO_3.out)
     have n1_ := Aside0.mk (blk_drew BK147.out)
     have n2_ := Aside0.mk (below_drew1 HB.out)
     clear HO_3
     clear BK147
     clear HB
     have HO_3 := n0_
     have BK147 := n1_
     have HB := n2_
     clear n0_ n1_ n2_
     have p148 : 0 ≤ ((ji7) : Int) := of_decide_eq_true (by first | (with_reducible assumption) | assumption)
     have q148 : (ji7) < (x3_1.length : Int) := of_decide_eq_true (by first | (with_reducible assumption) | assumption)
     obtain ⟨ad148, e148, hx148_0, hx148_1, hx148_2, hx148_3, hx148_4, hx148_5⟩ := at_T41 (Kd.R_reads' HO_3.out).2.2 (ji7) p148 q148
     cases e148
     replace p148 := eq_true p148
     replace q148 := eq_true q148
     refine start_ (n := 8) (S := fun w' => w'.cell? ⟨gb147, 0, none⟩ = some (.int .i64 ((rd_T87 l0 x4_1).f0.f0)) ∧ w'.cell? ⟨gb147, 1, none⟩ = some (.int .i64 ((rd_T87 l0 x4_1).f0.f1)) ∧ w'.cell? ⟨gb147, 2, none⟩ = some (.int .i64 ((rd_T87 l0 x4_1).f0.f2)) ∧ w'.cell? ⟨gb147, 3, none⟩ = some (.int .i64 ((rd_T87 l0 x4_1).f0.f3)) ∧ w'.cell? ⟨gb147, 4, none⟩ = some (.int .i64 ((rd_T87 l0 x4_1).f0.f4)) ∧ w'.cell? ⟨gb147, 5, none⟩ = some (.int .i64 ((rd_T87 l0 x4_1).f0.f5)) ∧ w'.cell? (ad148.add (((ji7)).toNat * 6)) = some (.int .i64 ((rd_T41 x3_1 (ji7)).f0)) ∧ w'.cell? ⟨(ad148.add (((ji7)).toNat * 6)).block, (ad148.add (((ji7)).toNat * 6)).off + 1, none⟩ = some (.int .i64 ((rd_T41 x3_1 (ji7)).f1)) ∧ w'.cell? ⟨(ad148.add (((ji7)).toNat * 6)).block, (ad148.add (((ji7)).toNat * 6)).off + 2, none⟩ = some (.int .i64 ((rd_T41 x3_1 (ji7)).f2)) ∧ w'.cell? ⟨(ad148.add (((ji7)).toNat * 6)).block, (ad148.add (((ji7)).toNat * 6)).off + 3, none⟩ = some (.int .i64 ((rd_T41 x3_1 (ji7)).f3)) ∧ w'.cell? ⟨(ad148.add (((ji7)).toNat * 6)).block, (ad148.add (((ji7)).toNat * 6)).off + 4, none⟩ = some (.int .i64 ((rd_T41 x3_1 (ji7)).f4)) ∧ w'.cell? ⟨(ad148.add (((ji7)).toNat * 6)).block, (ad148.add (((ji7)).toNat * 6)).off + 5, none⟩ = some (.int .i64 ((rd_T41 x3_1 (ji7)).f5))) (ds := []) #[f_,f_,f_,f_,f_,f_,f_,f_] (by kernel_rfl) rfl rfl ⟨(blk_cell BK147.out 0).trans rfl, (blk_cell BK147.out 1).trans rfl, (blk_cell BK147.out 2).trans rfl, (blk_cell BK147.out 3).trans rfl, (blk_cell BK147.out 4).trans rfl, (blk_cell BK147.out 5).trans rfl, hx148_0, hx148_1, hx148_2, hx148_3, hx148_4, hx148_5⟩ (fun hHeld => ?_); refine with_tabW flyleafref15_Row.tab9 flyleafref15_Row.bits9 (fun HT_ HW_ => ?_)
     generalize w26.drew = w27 at HO_3 BK147 HB hx148_0 hx148_1 hx148_2 hx148_3 hx148_4 hx148_5 hHeld ⊢
     refine pure_ (i := 0) (N := some 29) (v := ?_) (a' := ?_) #[t_,f_,f_,f_,f_,f_,f_,f_] rfl rfl (any_of HT_.out (by kernel_rfl)) (fun _ _ _ h => h) (Or.inl ⟨by rfl, ?_⟩) ?_ ?_; rotate_left; intro w'; go_simp; with_reducible rfl; rotate_left; simp only [Act.put, sA_, sB_, sC_, i64_w, i32_w]; rfl
     refine pure_ (i := 1) (N := some 30) (v := ?_) (a' := ?_) #[t_,t_,f_,f_,f_,f_,f_,f_] rfl rfl (any_of HT_.out (by kernel_rfl)) (fun _ _ _ h => h) (Or.inl ⟨by rfl, ?_⟩) ?_ ?_; rotate_left; intro w'; go_simp; with_reducible rfl; rotate_left; simp only [Act.put, sA_, sB_, sC_, i64_w, i32_w]; rfl
     refine pure_ (i := 2) (N := some 31) (v := ?_) (a' := ?_) #[t_,t_,t_,f_,f_,f_,f_,f_] rfl rfl (any_of HT_.out (by kernel_rfl)) (fun _ _ _ h => h) (Or.inl ⟨by rfl, ?_⟩) ?_ ?_; rotate_left; intro w'; go_simp; with_reducible rfl; rotate_left; simp only [Act.put, sA_, sB_, sC_, i64_w, i32_w]; rfl
     refine pure_ (i := 3) (N := some 32) (v := ?_) (a' := ?_) #[t_,t_,t_,t_,f_,f_,f_,f_] rfl rfl (any_of HT_.out (by kernel_rfl)) (fun _ _ _ h => h) (Or.inl ⟨by rfl, ?_⟩) ?_ ?_; rotate_left; intro w'; go_simp; with_reducible rfl; rotate_left; simp only [Act.put, sA_, sB_, sC_, i64_w, i32_w]; rfl
     refine take_ (i := 4) (N := some 33) (v := ?_) (a' := ?_) #[t_,t_,t_,t_,t_,f_,f_,f_] rfl rfl (take_ofW HT_.out HW_.out (by kernel_rfl)) (fun _ _ _ h => h) (Or.inl ⟨by rfl, ?_⟩) hHeld ?_ ?_; rotate_left; rintro w' ⟨s0, s1, s2, s3, s4, s5, s6, s7, s8, s9, s10, s11⟩; go_simp; with_reducible rfl; rotate_left; simp only [Act.put, sA_, sB_, sC_, i64_w, i32_w]; rfl
     refine take_ (i := 5) (N := some 34) (v := ?_) (a' := ?_) #[t_,t_,t_,t_,t_,t_,f_,f_] rfl rfl (take_ofW HT_.out HW_.out (by kernel_rfl)) (fun _ _ _ h => h) (Or.inl ⟨by rfl, ?_⟩) hHeld ?_ ?_; rotate_left; rintro w' ⟨s0, s1, s2, s3, s4, s5, s6, s7, s8, s9, s10, s11⟩; go_simp; with_reducible rfl; rotate_left; simp only [Act.put, sA_, sB_, sC_, i64_w, i32_w]; rfl
     refine one_ (i := 6) (N := some 35) #[t_,t_,t_,t_,t_,t_,t_,f_] rfl rfl (one_of HT_.out (by kernel_rfl)) (by decide) (fun K hK => ?_)
     refine goes_ Try.func134 (by kernel_rfl) rfl #[.agg #[.int .i64 ((rd_T41 x3_1 (ji7)).f0), .int .i64 ((rd_T41 x3_1 (ji7)).f1), .int .i64 ((rd_T41 x3_1 (ji7)).f2), .int .i64 ((rd_T41 x3_1 (ji7)).f3), .int .i64 ((rd_T41 x3_1 (ji7)).f4), .int .i64 ((rd_T41 x3_1 (ji7)).f5)], .agg #[.int .i64 ((rd_T87 l0 x4_1).f0.f0), .int .i64 ((rd_T87 l0 x4_1).f0.f1), .int .i64 ((rd_T87 l0 x4_1).f0.f2), .int .i64 ((rd_T87 l0 x4_1).f0.f3), .int .i64 ((rd_T87 l0 x4_1).f0.f4), .int .i64 ((rd_T87 l0 x4_1).f0.f5)]] (by rfl) rfl rfl (by (try simp only [List.map_toArray, List.map_cons, List.map_nil]); first | done | (simp only [hji7]; rfl) | rfl | (simp only [List.length_drop, List.length_take]; rfl)) ?_
     with_reducible refine (flyleafref15_one.calls ((rd_T41 x3_1 (ji7)).f0) ((rd_T41 x3_1 (ji7)).f1) ((rd_T41 x3_1 (ji7)).f2) ((rd_T41 x3_1 (ji7)).f3) ((rd_T41 x3_1 (ji7)).f4) ((rd_T41 x3_1 (ji7)).f5) ((rd_T87 l0 x4_1).f0.f0) ((rd_T87 l0 x4_1).f0.f1) ((rd_T87 l0 x4_1).f0.f2) ((rd_T87 l0 x4_1).f0.f3) ((rd_T87 l0 x4_1).f0.f4) ((rd_T87 l0 x4_1).f0.f5) false _ A10.out).mono ?_
     rintro e w28 ⟨rfl, hb⟩
     have HS6_ := (hb.cell (World.block_lt_of_cell? _ _ (hHeld.2.2.2.2.2.2.1))).trans (hHeld.2.2.2.2.2.2.1)
     have HS7_ := (hb.cell (World.block_lt_of_cell? _ _ (hHeld.2.2.2.2.2.2.2.1))).trans (hHeld.2.2.2.2.2.2.2.1)
     have HS8_ := (hb.cell (World.block_lt_of_cell? _ _ (hHeld.2.2.2.2.2.2.2.2.1))).trans (hHeld.2.2.2.2.2.2.2.2.1)
     have HS9_ := (hb.cell (World.block_lt_of_cell? _ _ (hHeld.2.2.2.2.2.2.2.2.2.1))).trans (hHeld.2.2.2.2.2.2.2.2.2.1)
     have HS10_ := (hb.cell (World.block_lt_of_cell? _ _ (hHeld.2.2.2.2.2.2.2.2.2.2.1))).trans (hHeld.2.2.2.2.2.2.2.2.2.2.1)
     have HS11_ := (hb.cell (World.block_lt_of_cell? _ _ (hHeld.2.2.2.2.2.2.2.2.2.2.2))).trans (hHeld.2.2.2.2.2.2.2.2.2.2.2)
     refine ⟨_, rfl, ?_⟩
     have n0_ := Aside0.mk (Kd.R_below (by (with_reducible repeat (first | apply Kd.R_alloc | apply Kd.R_drewN | apply Kd.R_drew)); exact HO_3.out) hb)
     have n1_ := Aside0.mk (blk_below (g := gb147) (o := .cells #[.int .i64 ((rd_T87 l0 x4_1).f0.f0), .int .i64 ((rd_T87 l0 x4_1).f0.f1), .int .i64 ((rd_T87 l0 x4_1).f0.f2), .int .i64 ((rd_T87 l0 x4_1).f0.f3), .int .i64 ((rd_T87 l0 x4_1).f0.f4), .int .i64 ((rd_T87 l0 x4_1).f0.f5)] 41 (0, 0)) (by (with_reducible repeat (first | refine blk_drewN ?_ _ | refine blk_drew ?_ | refine blk_alloc ?_ _)); exact BK147.out) hb)
     have n2_ := Aside0.mk (below_step (by repeat (first | (with_reducible first | exact HB.out | apply below_alloc | apply pw_below_drewN | apply below_drew1 | refine below_set ?_ GE147.out) | exact HB.out)) hb)
     clear HO_3
     clear BK147
     clear HB
     have HO_3 := n0_
     have BK147 := n1_
     have HB := n2_
     clear n0_ n1_ n2_
     (try clear hb)
     (try clear hb2)
     (try clear hk)
     (try clear hi)
     refine hK.out _ _ ⟨(blk_cell BK147.out 0).trans rfl, (blk_cell BK147.out 1).trans rfl, (blk_cell BK147.out 2).trans rfl, (blk_cell BK147.out 3).trans rfl, (blk_cell BK147.out 4).trans rfl, (blk_cell BK147.out 5).trans rfl, HS6_, HS7_, HS8_, HS9_, HS10_, HS11_⟩ (fun hHeld => ?_)
     clear hK K
     refine norm_ (a' := ?_) ?_ ?_
     rotate_left
     · show Act.put _ (some 35) _ = _
       simp only [Act.put, sA_, sB_, sC_, i64_w, i32_w]
       rfl
     refine pure_ (i := 7) (N := some 7) (v := ?_) (a' := ?_) #[t_,t_,t_,t_,t_,t_,t_,t_] rfl rfl (any_of HT_.out (by kernel_rfl)) (fun _ _ _ h => h) (Or.inl ⟨by rfl, ?_⟩) ?_ ?_; rotate_left; intro w'; go_simp; with_reducible rfl; rotate_left; simp only [Act.put, sA_, sB_, sC_, i64_w, i32_w]; rfl
     refine done_ (done_of HT_.out (by kernel_rfl)) ?_
     have hcz29_0 : w28.cell? ⟨gb147, 0, none⟩ = some (.int .i64 ((rd_T87 l0 x4_1).f0.f0)) := (blk_cell BK147.out 0).trans rfl
     have hcz29_1 : w28.cell? ⟨gb147, 1, none⟩ = some (.int .i64 ((rd_T87 l0 x4_1).f0.f1)) := (blk_cell BK147.out 1).trans rfl
     have hcz29_2 : w28.cell? ⟨gb147, 2, none⟩ = some (.int .i64 ((rd_T87 l0 x4_1).f0.f2)) := (blk_cell BK147.out 2).trans rfl
     have hcz29_3 : w28.cell? ⟨gb147, 3, none⟩ = some (.int .i64 ((rd_T87 l0 x4_1).f0.f3)) := (blk_cell BK147.out 3).trans rfl
     have hcz29_4 : w28.cell? ⟨gb147, 4, none⟩ = some (.int .i64 ((rd_T87 l0 x4_1).f0.f4)) := (blk_cell BK147.out 4).trans rfl
     have hcz29_5 : w28.cell? ⟨gb147, 5, none⟩ = some (.int .i64 ((rd_T87 l0 x4_1).f0.f5)) := (blk_cell BK147.out 5).trans rfl
     have hfz29_0 := blk_frozen BK147.out 0
     have hfz29_1 := blk_frozen BK147.out 1
     have hfz29_2 := blk_frozen BK147.out 2
     have hfz29_3 := blk_frozen BK147.out 3
     have hfz29_4 := blk_frozen BK147.out 4
     have hfz29_5 := blk_frozen BK147.out 5
     try go_wp2_with (first | ((with_reducible refine gate_builtin (b := .append) (xs := #[.tmp 44, .tmp 46]) rfl ?_); at_builtin; refine Kd.R_append k41 (w0 := w) w.heap.size rfl (.tmp 44) (.tmp 46) 43 41 (.agg #[(.int .i64 0), (.int .i64 0), (.int .i64 0), (.int .i64 0), (.int .i64 0), (.int .i64 0)]) 48 rfl Try.underlying43 info41 rfl (by decide) (by omega) (.slice (some ad148) x3_1.length co25) x3_1 (⟨(rd_T87 l0 x4_1).f0.f0, (rd_T87 l0 x4_1).f0.f1, (rd_T87 l0 x4_1).f0.f2, (rd_T87 l0 x4_1).f0.f3, (rd_T87 l0 x4_1).f0.f4, (rd_T87 l0 x4_1).f0.f5⟩ : S41) [.int .i64 ((rd_T87 l0 x4_1).f0.f0), .int .i64 ((rd_T87 l0 x4_1).f0.f1), .int .i64 ((rd_T87 l0 x4_1).f0.f2), .int .i64 ((rd_T87 l0 x4_1).f0.f3), .int .i64 ((rd_T87 l0 x4_1).f0.f4), .int .i64 ((rd_T87 l0 x4_1).f0.f5)] (fun k_ => k_ ≠ gb147) (fun _ => False) rfl rfl ?aP (fun _ hk => hk.elim) ?aF ?aO ?aB ?aS ?aL ?_; (case aP => exact k41_mkM _ _ _ (⟨(rd_T87 l0 x4_1).f0.f0, (rd_T87 l0 x4_1).f0.f1, (rd_T87 l0 x4_1).f0.f2, (rd_T87 l0 x4_1).f0.f3, (rd_T87 l0 x4_1).f0.f4, (rd_T87 l0 x4_1).f0.f5⟩ : S41)); (case aB => exact (by repeat (first | (with_reducible first | exact HB.out | apply below_alloc | apply pw_below_drewN | apply below_drew1 | refine below_set ?_ GE147.out) | exact HB.out))); (case aF => exact (fun k_ hk => Kd.freshB (g := gb147) (o := .cells #[.int .i64 ((rd_T87 l0 x4_1).f0.f0), .int .i64 ((rd_T87 l0 x4_1).f0.f1), .int .i64 ((rd_T87 l0 x4_1).f0.f2), .int .i64 ((rd_T87 l0 x4_1).f0.f3), .int .i64 ((rd_T87 l0 x4_1).f0.f4), .int .i64 ((rd_T87 l0 x4_1).f0.f5)] 41 (0, 0)) (by (with_reducible repeat (first | refine blk_drewN ?_ _ | refine blk_drew ?_ | refine blk_alloc ?_ _)); exact BK147.out) k_ hk)); (case aO => exact (by (with_reducible repeat (first | apply Kd.R_alloc | apply Kd.R_drewN | apply Kd.R_drew)); exact HO_3.out)); (case aS => exact (below_size (by repeat (first | (with_reducible first | exact HB.out | apply below_alloc | apply pw_below_drewN | apply below_drew1 | refine below_set ?_ GE147.out) | exact HB.out)))); (case aL => have := LMc22.out; omega); intro v152 w30 ho hb hg hat; rw [← Ny151.out] at ho; have n0_ := Aside0.mk (blk_grown (g := gb147) (o := .cells #[.int .i64 ((rd_T87 l0 x4_1).f0.f0), .int .i64 ((rd_T87 l0 x4_1).f0.f1), .int .i64 ((rd_T87 l0 x4_1).f0.f2), .int .i64 ((rd_T87 l0 x4_1).f0.f3), .int .i64 ((rd_T87 l0 x4_1).f0.f4), .int .i64 ((rd_T87 l0 x4_1).f0.f5)] 41 (0, 0)) (by (with_reducible repeat (first | refine blk_drewN ?_ _ | refine blk_drew ?_ | refine blk_alloc ?_ _)); exact BK147.out) hg (Kd.R_away HO_3.out (fun _ hk => hk))); have n1_ := Aside0.mk (hb); have n2_ := Aside0.mk (ho); clear BK147; clear HB; clear HO_3; have BK147 := n0_; have HB := n1_; have HO153 := n2_; clear n0_ n1_ n2_; clear ho hb hg hat))
     go_roundg k1
     case measure => have := HK1.out; omega
     case rel => exact ⟨(y151), (wrap64 (x4_1 + 1)), (by first | rfl | (simp; done) | (simp [*]; done)), H', ⟨by have := HK1.out; omega⟩, ⟨by (with_reducible repeat (first | apply Kd.R_alloc | apply Kd.R_drewN | apply Kd.R_drew)); exact Kd.R_mono HO153.out (fun _ hk => trivial)⟩, ⟨by repeat (first | (with_reducible first | exact HB.out | apply below_alloc | apply pw_below_drewN | apply below_drew1 | refine below_set ?_ GE147.out) | exact HB.out)⟩⟩
   subst c11
   have H1 : (flyleafref15_Row.l0 k1 l0 (x3_1.set ((ji7) : Int).toNat (⟨(rd_T41 x3_1 (ji7)).f0, (rd_T87 l0 x4_1).f0.f1, (rd_T41 x3_1 (ji7)).f2, (rd_T41 x3_1 (ji7)).f3, (rd_T41 x3_1 (ji7)).f4, (rd_T41 x3_1 (ji7)).f5⟩ : S41)) (wrap64 (x4_1 + 1))) = some r := by rw [if_pos rfl] at H; exact H
   clear H
   have H := H1
   clear H1
   obtain ⟨y150, hy150⟩ : ∃ y_ : List (S41), y_ = (x3_1.set ((ji7) : Int).toNat (⟨(rd_T41 x3_1 (ji7)).f0, (rd_T87 l0 x4_1).f0.f1, (rd_T41 x3_1 (ji7)).f2, (rd_T41 x3_1 (ji7)).f3, (rd_T41 x3_1 (ji7)).f4, (rd_T41 x3_1 (ji7)).f5⟩ : S41)) := ⟨_, rfl⟩
   replace H : (flyleafref15_Row.l0 k1 l0 y150 (wrap64 (x4_1 + 1))) = some r := by first | (rw [hy150]; with_reducible exact H) | (have H2_ := (Option.bind_some _ _).symm.trans H; rw [hy150]; with_reducible exact H2_) | (have H2_ := (Option.bind_some _ _).symm.trans H; with_reducible exact H2_) | with_reducible exact H | (rw [hy150]; exact H) | exact H
   have Ny150 := Aside0.mk hy150
   clear hy150
   have H' := Aside0.mk H
   clear H
   have p145 : 0 ≤ (x4_1 : Int) := of_decide_eq_true (by first | (with_reducible assumption) | assumption)
   have q145 : x4_1 < (l0.length : Int) := of_decide_eq_true (by first | (with_reducible assumption) | assumption)
   obtain ⟨ad145, e145, hx145_0, hx145_1, hx145_2, hx145_3, hx145_4, hx145_5, hx145_6⟩ := at_T87 HR0.out x4_1 p145 q145
   (try rw [← Nbq4.out] at hx145_6)
   cases e145
   replace hx145_0 := up_ hx145_0 HB.out
   replace hx145_1 := up_ hx145_1 HB.out
   replace hx145_2 := up_ hx145_2 HB.out
   replace hx145_3 := up_ hx145_3 HB.out
   replace hx145_4 := up_ hx145_4 HB.out
   replace hx145_5 := up_ hx145_5 HB.out
   replace hx145_6 := up_ hx145_6 HB.out
   replace p145 := eq_true p145
   replace q145 := eq_true q145
   have p146 : 0 ≤ (x4_1 : Int) := of_decide_eq_true (by first | (with_reducible assumption) | assumption)
   have q146 : x4_1 < (l0.length : Int) := of_decide_eq_true (by first | (with_reducible assumption) | assumption)
   obtain ⟨ad146, e146, hx146_0, hx146_1, hx146_2, hx146_3, hx146_4, hx146_5, hx146_6⟩ := at_T87 HR0.out x4_1 p146 q146
   (try rw [← Nbq4.out] at hx146_6)
   obtain rfl : ad145 = ad146 := (by injection e146)
   replace hx146_0 := up_ hx146_0 HB.out
   replace hx146_1 := up_ hx146_1 HB.out
   replace hx146_2 := up_ hx146_2 HB.out
   replace hx146_3 := up_ hx146_3 HB.out
   replace hx146_4 := up_ hx146_4 HB.out
   replace hx146_5 := up_ hx146_5 HB.out
   replace hx146_6 := up_ hx146_6 HB.out
   replace p146 := eq_true p146
   replace q146 := eq_true q146
   try go_wp2_with (first | ((with_reducible refine gate_dst (N := 5) rfl ?_); refine box_event ?hg (N := 5) ?hd (cs := #[.int .i64 0, .int .i64 0, .int .i64 0, .int .i64 0, .int .i64 0, .int .i64 0]) (t := 41) ?hr ?_; (case hd => rfl); (case hg => rfl); (case hr => first | (go_simp; done) | (go_simp; rfl)); intro gb147 hg w13 hbox hb; have n0_ := Aside0.mk (Kd.R_below (Kd.R_elderB (by (with_reducible repeat (first | apply Kd.R_alloc | apply Kd.R_drewN | apply Kd.R_drew)); exact HO_3.out) gb147 (Nat.le_of_eq hg.symm)) hb); have n1_ := Aside0.mk (below_step (by repeat (first | (with_reducible first | exact HB.out | apply below_alloc | apply pw_below_drewN | apply below_drew1) | exact HB.out)) hb); have n2_ := Aside0.mk (hbox); have n3_ := Aside0.mk ((by rw [hg]; exact (below_size (by repeat (first | (with_reducible first | exact HB.out | apply below_alloc | apply pw_below_drewN | apply below_drew1) | exact HB.out))) : w.heap.size ≤ gb147)); have n4_ := Aside0.mk ((by rw [hg]; exact (below_size (by repeat (first | (with_reducible first | exact HB.out | apply below_alloc | apply pw_below_drewN | apply below_drew1) | exact HB.out))) : w.heap.size ≤ gb147)); clear HO_3; clear HB; have HO_3 := n0_; have HB := n1_; have BK147 := n2_; have GW147 := n3_; have GE147 := n4_; clear n0_ n1_ n2_ n3_ n4_; clear hb hbox hg; have hcz14_0 : w13.cell? ⟨gb147, 0, none⟩ = some (.int .i64 0) := (blk_cell BK147.out 0).trans rfl; have hcz14_1 : w13.cell? ⟨gb147, 1, none⟩ = some (.int .i64 0) := (blk_cell BK147.out 1).trans rfl; have hcz14_2 : w13.cell? ⟨gb147, 2, none⟩ = some (.int .i64 0) := (blk_cell BK147.out 2).trans rfl; have hcz14_3 : w13.cell? ⟨gb147, 3, none⟩ = some (.int .i64 0) := (blk_cell BK147.out 3).trans rfl; have hcz14_4 : w13.cell? ⟨gb147, 4, none⟩ = some (.int .i64 0) := (blk_cell BK147.out 4).trans rfl; have hcz14_5 : w13.cell? ⟨gb147, 5, none⟩ = some (.int .i64 0) := (blk_cell BK147.out 5).trans rfl; have hfz14_0 := blk_frozen BK147.out 0; have hfz14_1 := blk_frozen BK147.out 1; have hfz14_2 := blk_frozen BK147.out 2; have hfz14_3 := blk_frozen BK147.out 3; have hfz14_4 := blk_frozen BK147.out 4; have hfz14_5 := blk_frozen BK147.out 5; obtain ⟨Ao15, co15, eo15⟩ := Kd.R_slice HO_3.out; subst eo15))
   have n0_ : Aside0 (Kd.R k41 41 ((((((w13.setCell ⟨gb147, 0, none⟩ (.int .i64 ((rd_T87 l0 x4_1).f0.f0))).setCell ⟨gb147, 1, none⟩ (.int .i64 ((rd_T87 l0 x4_1).f0.f1))).setCell ⟨gb147, 2, none⟩ (.int .i64 ((rd_T87 l0 x4_1).f0.f2))).setCell ⟨gb147, 3, none⟩ (.int .i64 ((rd_T87 l0 x4_1).f0.f3))).setCell ⟨gb147, 4, none⟩ (.int .i64 ((rd_T87 l0 x4_1).f0.f4))).setCell ⟨gb147, 5, none⟩ (.int .i64 ((rd_T87 l0 x4_1).f0.f5))) w.heap.size (fun k_ => k_ ≠ gb147) (.slice Ao15 x3_1.length co15) x3_1) := ⟨by (with_reducible repeat (first | apply Kd.R_alloc | apply Kd.R_drewN | apply Kd.R_drew)); exact Kd.R_mono (Kd.R_far (p := ⟨gb147, 5, none⟩) (Kd.R_far (p := ⟨gb147, 4, none⟩) (Kd.R_far (p := ⟨gb147, 3, none⟩) (Kd.R_far (p := ⟨gb147, 2, none⟩) (Kd.R_far (p := ⟨gb147, 1, none⟩) (Kd.R_far (p := ⟨gb147, 0, none⟩) (Kd.R_mono HO_3.out (fun k_ hk => (⟨hk, hk.2⟩ : _ ∧ k_ ≠ gb147))) (fun _ hk => hk.2) (.int .i64 ((rd_T87 l0 x4_1).f0.f0))) (fun _ hk => hk.2) (.int .i64 ((rd_T87 l0 x4_1).f0.f1))) (fun _ hk => hk.2) (.int .i64 ((rd_T87 l0 x4_1).f0.f2))) (fun _ hk => hk.2) (.int .i64 ((rd_T87 l0 x4_1).f0.f3))) (fun _ hk => hk.2) (.int .i64 ((rd_T87 l0 x4_1).f0.f4))) (fun _ hk => hk.2) (.int .i64 ((rd_T87 l0 x4_1).f0.f5))) (fun _ hk => hk.1.2)⟩
   have n1_ : Aside0 (((((((w13.setCell ⟨gb147, 0, none⟩ (.int .i64 ((rd_T87 l0 x4_1).f0.f0))).setCell ⟨gb147, 1, none⟩ (.int .i64 ((rd_T87 l0 x4_1).f0.f1))).setCell ⟨gb147, 2, none⟩ (.int .i64 ((rd_T87 l0 x4_1).f0.f2))).setCell ⟨gb147, 3, none⟩ (.int .i64 ((rd_T87 l0 x4_1).f0.f3))).setCell ⟨gb147, 4, none⟩ (.int .i64 ((rd_T87 l0 x4_1).f0.f4))).setCell ⟨gb147, 5, none⟩ (.int .i64 ((rd_T87 l0 x4_1).f0.f5))).heap[gb147]? = some (.cells #[.int .i64 ((rd_T87 l0 x4_1).f0.f0), .int .i64 ((rd_T87 l0 x4_1).f0.f1), .int .i64 ((rd_T87 l0 x4_1).f0.f2), .int .i64 ((rd_T87 l0 x4_1).f0.f3), .int .i64 ((rd_T87 l0 x4_1).f0.f4), .int .i64 ((rd_T87 l0 x4_1).f0.f5)] 41 (0, 0))) := ⟨by (with_reducible repeat (first | refine blk_drewN ?_ _ | refine blk_drew ?_ | refine blk_alloc ?_ _)); refine blk_put (cs := #[.int .i64 ((rd_T87 l0 x4_1).f0.f0), .int .i64 ((rd_T87 l0 x4_1).f0.f1), .int .i64 ((rd_T87 l0 x4_1).f0.f2), .int .i64 ((rd_T87 l0 x4_1).f0.f3), .int .i64 ((rd_T87 l0 x4_1).f0.f4), .int .i64 0]) ?_ 5 _ rfl; (with_reducible repeat (first | refine blk_drewN ?_ _ | refine blk_drew ?_ | refine blk_alloc ?_ _)); refine blk_put (cs := #[.int .i64 ((rd_T87 l0 x4_1).f0.f0), .int .i64 ((rd_T87 l0 x4_1).f0.f1), .int .i64 ((rd_T87 l0 x4_1).f0.f2), .int .i64 ((rd_T87 l0 x4_1).f0.f3), .int .i64 0, .int .i64 0]) ?_ 4 _ rfl; (with_reducible repeat (first | refine blk_drewN ?_ _ | refine blk_drew ?_ | refine blk_alloc ?_ _)); refine blk_put (cs := #[.int .i64 ((rd_T87 l0 x4_1).f0.f0), .int .i64 ((rd_T87 l0 x4_1).f0.f1), .int .i64 ((rd_T87 l0 x4_1).f0.f2), .int .i64 0, .int .i64 0, .int .i64 0]) ?_ 3 _ rfl; (with_reducible repeat (first | refine blk_drewN ?_ _ | refine blk_drew ?_ | refine blk_alloc ?_ _)); refine blk_put (cs := #[.int .i64 ((rd_T87 l0 x4_1).f0.f0), .int .i64 ((rd_T87 l0 x4_1).f0.f1), .int .i64 0, .int .i64 0, .int .i64 0, .int .i64 0]) ?_ 2 _ rfl; (with_reducible repeat (first | refine blk_drewN ?_ _ | refine blk_drew ?_ | refine blk_alloc ?_ _)); refine blk_put (cs := #[.int .i64 ((rd_T87 l0 x4_1).f0.f0), .int .i64 0, .int .i64 0, .int .i64 0, .int .i64 0, .int .i64 0]) ?_ 1 _ rfl; (with_reducible repeat (first | refine blk_drewN ?_ _ | refine blk_drew ?_ | refine blk_alloc ?_ _)); refine blk_put (cs := #[.int .i64 0, .int .i64 0, .int .i64 0, .int .i64 0, .int .i64 0, .int .i64 0]) ?_ 0 _ rfl; (with_reducible repeat (first | refine blk_drewN ?_ _ | refine blk_drew ?_ | refine blk_alloc ?_ _)); exact BK147.out⟩
   have n2_ : Aside0 (Below w.heap.size w ((((((w13.setCell ⟨gb147, 0, none⟩ (.int .i64 ((rd_T87 l0 x4_1).f0.f0))).setCell ⟨gb147, 1, none⟩ (.int .i64 ((rd_T87 l0 x4_1).f0.f1))).setCell ⟨gb147, 2, none⟩ (.int .i64 ((rd_T87 l0 x4_1).f0.f2))).setCell ⟨gb147, 3, none⟩ (.int .i64 ((rd_T87 l0 x4_1).f0.f3))).setCell ⟨gb147, 4, none⟩ (.int .i64 ((rd_T87 l0 x4_1).f0.f4))).setCell ⟨gb147, 5, none⟩ (.int .i64 ((rd_T87 l0 x4_1).f0.f5)))) := ⟨by repeat (first | (with_reducible first | exact HB.out | apply below_alloc | apply pw_below_drewN | apply below_drew1 | refine below_set ?_ GE147.out) | exact HB.out)⟩
   (try clear HO_3)
   (try clear BK147)
   (try clear HB)
   generalize ((((((w13.setCell ⟨gb147, 0, none⟩ (.int .i64 ((rd_T87 l0 x4_1).f0.f0))).setCell ⟨gb147, 1, none⟩ (.int .i64 ((rd_T87 l0 x4_1).f0.f1))).setCell ⟨gb147, 2, none⟩ (.int .i64 ((rd_T87 l0 x4_1).f0.f2))).setCell ⟨gb147, 3, none⟩ (.int .i64 ((rd_T87 l0 x4_1).f0.f3))).setCell ⟨gb147, 4, none⟩ (.int .i64 ((rd_T87 l0 x4_1).f0.f4))).setCell ⟨gb147, 5, none⟩ (.int .i64 ((rd_T87 l0 x4_1).f0.f5))) = w16 at n0_ n1_ n2_ ⊢
   have HO_3 := n0_
   have BK147 := n1_
   have HB := n2_
   clear n0_ n1_ n2_
   have n0_ := Aside0.mk (Kd.R_drew HO_3.out)
   have n1_ := Aside0.mk (blk_drew BK147.out)
   have n2_ := Aside0.mk (below_drew1 HB.out)
   clear HO_3
   clear BK147
   clear HB
   have HO_3 := n0_
   have BK147 := n1_
   have HB := n2_
   clear n0_ n1_ n2_
   have p148 : 0 ≤ ((ji7) : Int) := of_decide_eq_true (by first | (with_reducible assumption) | assumption)
   have q148 : (ji7) < (x3_1.length : Int) := of_decide_eq_true (by first | (with_reducible assumption) | assumption)
   obtain ⟨ad148, e148, hx148_0, hx148_1, hx148_2, hx148_3, hx148_4, hx148_5⟩ := at_T41 (Kd.R_reads' HO_3.out).2.2 (ji7) p148 q148
   cases e148
   replace p148 := eq_true p148
   replace q148 := eq_true q148
   refine start_ (n := 8) (S := fun w' => w'.cell? ⟨gb147, 0, none⟩ = some (.int .i64 ((rd_T87 l0 x4_1).f0.f0)) ∧ w'.cell? ⟨gb147, 1, none⟩ = some (.int .i64 ((rd_T87 l0 x4_1).f0.f1)) ∧ w'.cell? ⟨gb147, 2, none⟩ = some (.int .i64 ((rd_T87 l0 x4_1).f0.f2)) ∧ w'.cell? ⟨gb147, 3, none⟩ = some (.int .i64 ((rd_T87 l0 x4_1).f0.f3)) ∧ w'.cell? ⟨gb147, 4, none⟩ = some (.int .i64 ((rd_T87 l0 x4_1).f0.f4)) ∧ w'.cell? ⟨gb147, 5, none⟩ = some (.int .i64 ((rd_T87 l0 x4_1).f0.f5)) ∧ w'.cell? (ad148.add (((ji7)).toNat * 6)) = some (.int .i64 ((rd_T41 x3_1 (ji7)).f0)) ∧ w'.cell? ⟨(ad148.add (((ji7)).toNat * 6)).block, (ad148.add (((ji7)).toNat * 6)).off + 1, none⟩ = some (.int .i64 ((rd_T41 x3_1 (ji7)).f1)) ∧ w'.cell? ⟨(ad148.add (((ji7)).toNat * 6)).block, (ad148.add (((ji7)).toNat * 6)).off + 2, none⟩ = some (.int .i64 ((rd_T41 x3_1 (ji7)).f2)) ∧ w'.cell? ⟨(ad148.add (((ji7)).toNat * 6)).block, (ad148.add (((ji7)).toNat * 6)).off + 3, none⟩ = some (.int .i64 ((rd_T41 x3_1 (ji7)).f3)) ∧ w'.cell? ⟨(ad148.add (((ji7)).toNat * 6)).block, (ad148.add (((ji7)).toNat * 6)).off + 4, none⟩ = some (.int .i64 ((rd_T41 x3_1 (ji7)).f4)) ∧ w'.cell? ⟨(ad148.add (((ji7)).toNat * 6)).block, (ad148.add (((ji7)).toNat * 6)).off + 5, none⟩ = some (.int .i64 ((rd_T41 x3_1 (ji7)).f5))) (ds := []) #[f_,f_,f_,f_,f_,f_,f_,f_] (by kernel_rfl) rfl rfl ⟨(blk_cell BK147.out 0).trans rfl, (blk_cell BK147.out 1).trans rfl, (blk_cell BK147.out 2).trans rfl, (blk_cell BK147.out 3).trans rfl, (blk_cell BK147.out 4).trans rfl, (blk_cell BK147.out 5).trans rfl, hx148_0, hx148_1, hx148_2, hx148_3, hx148_4, hx148_5⟩ (fun hHeld => ?_); refine with_tabW flyleafref15_Row.tab9 flyleafref15_Row.bits9 (fun HT_ HW_ => ?_)
   generalize w16.drew = w17 at HO_3 BK147 HB hx148_0 hx148_1 hx148_2 hx148_3 hx148_4 hx148_5 hHeld ⊢
   refine pure_ (i := 0) (N := some 29) (v := ?_) (a' := ?_) #[t_,f_,f_,f_,f_,f_,f_,f_] rfl rfl (any_of HT_.out (by kernel_rfl)) (fun _ _ _ h => h) (Or.inl ⟨by rfl, ?_⟩) ?_ ?_; rotate_left; intro w'; go_simp; with_reducible rfl; rotate_left; simp only [Act.put, sA_, sB_, sC_, i64_w, i32_w]; rfl
   refine pure_ (i := 1) (N := some 30) (v := ?_) (a' := ?_) #[t_,t_,f_,f_,f_,f_,f_,f_] rfl rfl (any_of HT_.out (by kernel_rfl)) (fun _ _ _ h => h) (Or.inl ⟨by rfl, ?_⟩) ?_ ?_; rotate_left; intro w'; go_simp; with_reducible rfl; rotate_left; simp only [Act.put, sA_, sB_, sC_, i64_w, i32_w]; rfl
   refine pure_ (i := 2) (N := some 31) (v := ?_) (a' := ?_) #[t_,t_,t_,f_,f_,f_,f_,f_] rfl rfl (any_of HT_.out (by kernel_rfl)) (fun _ _ _ h => h) (Or.inl ⟨by rfl, ?_⟩) ?_ ?_; rotate_left; intro w'; go_simp; with_reducible rfl; rotate_left; simp only [Act.put, sA_, sB_, sC_, i64_w, i32_w]; rfl
   refine pure_ (i := 3) (N := some 32) (v := ?_) (a' := ?_) #[t_,t_,t_,t_,f_,f_,f_,f_] rfl rfl (any_of HT_.out (by kernel_rfl)) (fun _ _ _ h => h) (Or.inl ⟨by rfl, ?_⟩) ?_ ?_; rotate_left; intro w'; go_simp; with_reducible rfl; rotate_left; simp only [Act.put, sA_, sB_, sC_, i64_w, i32_w]; rfl
   refine take_ (i := 4) (N := some 33) (v := ?_) (a' := ?_) #[t_,t_,t_,t_,t_,f_,f_,f_] rfl rfl (take_ofW HT_.out HW_.out (by kernel_rfl)) (fun _ _ _ h => h) (Or.inl ⟨by rfl, ?_⟩) hHeld ?_ ?_; rotate_left; rintro w' ⟨s0, s1, s2, s3, s4, s5, s6, s7, s8, s9, s10, s11⟩; go_simp; with_reducible rfl; rotate_left; simp only [Act.put, sA_, sB_, sC_, i64_w, i32_w]; rfl
   refine take_ (i := 5) (N := some 34) (v := ?_) (a' := ?_) #[t_,t_,t_,t_,t_,t_,f_,f_] rfl rfl (take_ofW HT_.out HW_.out (by kernel_rfl)) (fun _ _ _ h => h) (Or.inl ⟨by rfl, ?_⟩) hHeld ?_ ?_; rotate_left; rintro w' ⟨s0, s1, s2, s3, s4, s5, s6, s7, s8, s9, s10, s11⟩; go_simp; with_reducible rfl; rotate_left; simp only [Act.put, sA_, sB_, sC_, i64_w, i32_w]; rfl
   refine one_ (i := 6) (N := some 35) #[t_,t_,t_,t_,t_,t_,t_,f_] rfl rfl (one_of HT_.out (by kernel_rfl)) (by decide) (fun K hK => ?_)
   refine goes_ Try.func134 (by kernel_rfl) rfl #[.agg #[.int .i64 ((rd_T41 x3_1 (ji7)).f0), .int .i64 ((rd_T41 x3_1 (ji7)).f1), .int .i64 ((rd_T41 x3_1 (ji7)).f2), .int .i64 ((rd_T41 x3_1 (ji7)).f3), .int .i64 ((rd_T41 x3_1 (ji7)).f4), .int .i64 ((rd_T41 x3_1 (ji7)).f5)], .agg #[.int .i64 ((rd_T87 l0 x4_1).f0.f0), .int .i64 ((rd_T87 l0 x4_1).f0.f1), .int .i64 ((rd_T87 l0 x4_1).f0.f2), .int .i64 ((rd_T87 l0 x4_1).f0.f3), .int .i64 ((rd_T87 l0 x4_1).f0.f4), .int .i64 ((rd_T87 l0 x4_1).f0.f5)]] (by rfl) rfl rfl (by (try simp only [List.map_toArray, List.map_cons, List.map_nil]); first | done | (simp only [hji7]; rfl) | rfl | (simp only [List.length_drop, List.length_take]; rfl)) ?_
   with_reducible refine (flyleafref15_one.calls ((rd_T41 x3_1 (ji7)).f0) ((rd_T41 x3_1 (ji7)).f1) ((rd_T41 x3_1 (ji7)).f2) ((rd_T41 x3_1 (ji7)).f3) ((rd_T41 x3_1 (ji7)).f4) ((rd_T41 x3_1 (ji7)).f5) ((rd_T87 l0 x4_1).f0.f0) ((rd_T87 l0 x4_1).f0.f1) ((rd_T87 l0 x4_1).f0.f2) ((rd_T87 l0 x4_1).f0.f3) ((rd_T87 l0 x4_1).f0.f4) ((rd_T87 l0 x4_1).f0.f5) true _ A10.out).mono ?_
   rintro e w18 ⟨rfl, hb⟩
   have HS6_ := (hb.cell (World.block_lt_of_cell? _ _ (hHeld.2.2.2.2.2.2.1))).trans (hHeld.2.2.2.2.2.2.1)
   have HS7_ := (hb.cell (World.block_lt_of_cell? _ _ (hHeld.2.2.2.2.2.2.2.1))).trans (hHeld.2.2.2.2.2.2.2.1)
   have HS8_ := (hb.cell (World.block_lt_of_cell? _ _ (hHeld.2.2.2.2.2.2.2.2.1))).trans (hHeld.2.2.2.2.2.2.2.2.1)
   have HS9_ := (hb.cell (World.block_lt_of_cell? _ _ (hHeld.2.2.2.2.2.2.2.2.2.1))).trans (hHeld.2.2.2.2.2.2.2.2.2.1)
   have HS10_ := (hb.cell (World.block_lt_of_cell? _ _ (hHeld.2.2.2.2.2.2.2.2.2.2.1))).trans (hHeld.2.2.2.2.2.2.2.2.2.2.1)
   have HS11_ := (hb.cell (World.block_lt_of_cell? _ _ (hHeld.2.2.2.2.2.2.2.2.2.2.2))).trans (hHeld.2.2.2.2.2.2.2.2.2.2.2)
   refine ⟨_, rfl, ?_⟩
   have n0_ := Aside0.mk (Kd.R_below (by (with_reducible repeat (first | apply Kd.R_alloc | apply Kd.R_drewN | apply Kd.R_drew)); exact HO_3.out) hb)
   have n1_ := Aside0.mk (blk_below (g := gb147) (o := .cells #[.int .i64 ((rd_T87 l0 x4_1).f0.f0), .int .i64 ((rd_T87 l0 x4_1).f0.f1), .int .i64 ((rd_T87 l0 x4_1).f0.f2), .int .i64 ((rd_T87 l0 x4_1).f0.f3), .int .i64 ((rd_T87 l0 x4_1).f0.f4), .int .i64 ((rd_T87 l0 x4_1).f0.f5)] 41 (0, 0)) (by (with_reducible repeat (first | refine blk_drewN ?_ _ | refine blk_drew ?_ | refine blk_alloc ?_ _)); exact BK147.out) hb)
   have n2_ := Aside0.mk (below_step (by repeat (first | (with_reducible first | exact HB.out | apply below_alloc | apply pw_below_drewN | apply below_drew1 | refine below_set ?_ GE147.out) | exact HB.out)) hb)
   clear HO_3
   clear BK147
   clear HB
   have HO_3 := n0_
   have BK147 := n1_
   have HB := n2_
   clear n0_ n1_ n2_
   (try clear hb)
   (try clear hb2)
   (try clear hk)
   (try clear hi)
   refine hK.out _ _ ⟨(blk_cell BK147.out 0).trans rfl, (blk_cell BK147.out 1).trans rfl, (blk_cell BK147.out 2).trans rfl, (blk_cell BK147.out 3).trans rfl, (blk_cell BK147.out 4).trans rfl, (blk_cell BK147.out 5).trans rfl, HS6_, HS7_, HS8_, HS9_, HS10_, HS11_⟩ (fun hHeld => ?_)
   clear hK K
   refine norm_ (a' := ?_) ?_ ?_
   rotate_left
   · show Act.put _ (some 35) _ = _
     simp only [Act.put, sA_, sB_, sC_, i64_w, i32_w]
     rfl
   refine pure_ (i := 7) (N := some 7) (v := ?_) (a' := ?_) #[t_,t_,t_,t_,t_,t_,t_,t_] rfl rfl (any_of HT_.out (by kernel_rfl)) (fun _ _ _ h => h) (Or.inl ⟨by rfl, ?_⟩) ?_ ?_; rotate_left; intro w'; go_simp; with_reducible rfl; rotate_left; simp only [Act.put, sA_, sB_, sC_, i64_w, i32_w]; rfl
   refine done_ (done_of HT_.out (by kernel_rfl)) ?_
   have hcz19_0 : w18.cell? ⟨gb147, 0, none⟩ = some (.int .i64 ((rd_T87 l0 x4_1).f0.f0)) := (blk_cell BK147.out 0).trans rfl
   have hcz19_1 : w18.cell? ⟨gb147, 1, none⟩ = some (.int .i64 ((rd_T87 l0 x4_1).f0.f1)) := (blk_cell BK147.out 1).trans rfl
   have hcz19_2 : w18.cell? ⟨gb147, 2, none⟩ = some (.int .i64 ((rd_T87 l0 x4_1).f0.f2)) := (blk_cell BK147.out 2).trans rfl
   have hcz19_3 : w18.cell? ⟨gb147, 3, none⟩ = some (.int .i64 ((rd_T87 l0 x4_1).f0.f3)) := (blk_cell BK147.out 3).trans rfl
   have hcz19_4 : w18.cell? ⟨gb147, 4, none⟩ = some (.int .i64 ((rd_T87 l0 x4_1).f0.f4)) := (blk_cell BK147.out 4).trans rfl
   have hcz19_5 : w18.cell? ⟨gb147, 5, none⟩ = some (.int .i64 ((rd_T87 l0 x4_1).f0.f5)) := (blk_cell BK147.out 5).trans rfl
   have hfz19_0 := blk_frozen BK147.out 0
   have hfz19_1 := blk_frozen BK147.out 1
   have hfz19_2 := blk_frozen BK147.out 2
   have hfz19_3 := blk_frozen BK147.out 3
   have hfz19_4 := blk_frozen BK147.out 4
   have hfz19_5 := blk_frozen BK147.out 5
   have p12 : 0 ≤ ((ji7) : Int) := of_decide_eq_true (by first | (with_reducible assumption) | assumption)
   have q12 : ((ji7) : Int) < ((x3_1.length : Int) : Int) := of_decide_eq_true (by first | (with_reducible assumption) | assumption)
   obtain ⟨go12, co12, eo12, gb12, gl12, cl12, HG12⟩ := Kd.R_form HO_3.out (by omega)
   (first | cases eo12 | (injection eo12 with ea_ en_ ec_; (first | subst ea_ | (injection ea_ with ea_; subst ea_)); subst ec_; clear en_))
   have GB12 := Aside0.mk gb12
   have GG12 := Aside0.mk HG12
   clear gb12 gl12 HG12
   (first | simp only [add_plain] at hx148_0 | skip)
   (first | simp only [add_plain] at hx148_1 | skip)
   (first | simp only [add_plain] at hx148_2 | skip)
   (first | simp only [add_plain] at hx148_3 | skip)
   (first | simp only [add_plain] at hx148_4 | skip)
   (first | simp only [add_plain] at hx148_5 | skip)
   obtain ⟨ce12, hcl12, hM12, hcc12, hfr12⟩ := Kd.R_elem HO_3.out z41 ((ji7) : Int) p12 q12
   obtain rfl := k41_openM hM12
   have hx12_0 : w18.cell? ⟨go12, ((ji7) : Int).toNat * 6, none⟩ = some (.int .i64 ((rd_T41 x3_1 (ji7)).f0)) := hcc12 0 _ rfl
   have hx12_1 : w18.cell? ⟨go12, ((ji7) : Int).toNat * 6 + 1, none⟩ = some (.int .i64 ((rd_T41 x3_1 (ji7)).f1)) := hcc12 1 _ rfl
   have hx12_2 : w18.cell? ⟨go12, ((ji7) : Int).toNat * 6 + 2, none⟩ = some (.int .i64 ((rd_T41 x3_1 (ji7)).f2)) := hcc12 2 _ rfl
   have hx12_3 : w18.cell? ⟨go12, ((ji7) : Int).toNat * 6 + 3, none⟩ = some (.int .i64 ((rd_T41 x3_1 (ji7)).f3)) := hcc12 3 _ rfl
   have hx12_4 : w18.cell? ⟨go12, ((ji7) : Int).toNat * 6 + 4, none⟩ = some (.int .i64 ((rd_T41 x3_1 (ji7)).f4)) := hcc12 4 _ rfl
   have hx12_5 : w18.cell? ⟨go12, ((ji7) : Int).toNat * 6 + 5, none⟩ = some (.int .i64 ((rd_T41 x3_1 (ji7)).f5)) := hcc12 5 _ rfl
   have hf12_0 : w18.frozen? ⟨go12, ((ji7) : Int).toNat * 6, none⟩ = false := hfr12 0
   have hf12_1 : w18.frozen? ⟨go12, ((ji7) : Int).toNat * 6 + 1, none⟩ = false := hfr12 1
   have hf12_2 : w18.frozen? ⟨go12, ((ji7) : Int).toNat * 6 + 2, none⟩ = false := hfr12 2
   have hf12_3 : w18.frozen? ⟨go12, ((ji7) : Int).toNat * 6 + 3, none⟩ = false := hfr12 3
   have hf12_4 : w18.frozen? ⟨go12, ((ji7) : Int).toNat * 6 + 4, none⟩ = false := hfr12 4
   have hf12_5 : w18.frozen? ⟨go12, ((ji7) : Int).toNat * 6 + 5, none⟩ = false := hfr12 5
   clear hcl12 hcc12 hfr12 hM12
   replace p12 := eq_true p12
   replace q12 := eq_true q12
   have HX20 := Aside0.mk (show Kd.R k41 41 w18 w.heap.size (fun k_ => k_ ≠ gb147) (.slice (some ⟨go12, 0, none⟩) x3_1.length co15) x3_1 from (by (with_reducible repeat (first | apply Kd.R_alloc | apply Kd.R_drewN | apply Kd.R_drew)); exact HO_3.out))
   obtain ⟨ce20, hcl20, hM20, hcc20, hfr20⟩ := Kd.R_elem HX20.out z41 ((ji7) : Int) (of_decide_eq_true (by first | (with_reducible assumption) | assumption)) (by have h_ : ((ji7) : Int) < ((x3_1.length : Int) : Int) := of_decide_eq_true (by first | (with_reducible assumption) | assumption); first | exact h_ | (have e_ := (Kd.R_reads' HO_3.out).1; omega) | simpa using h_)
   obtain rfl := k41_openM hM20
   have HP20 := Kd.R_seg HX20.out ((ji7) : Int) (of_decide_eq_true (by first | (with_reducible assumption) | assumption)) (by have h_ : ((ji7) : Int) < ((x3_1.length : Int) : Int) := of_decide_eq_true (by first | (with_reducible assumption) | assumption); first | exact h_ | (have e_ := (Kd.R_reads' HO_3.out).1; omega) | simpa using h_) (seg := [.int .i64 ((rd_T87 l0 x4_1).f0.f1)]) (j := 1) hcl20 hcc20 (show 2 ≤ 6 from by decide) (x' := (⟨(rd_T41 x3_1 (ji7)).f0, (rd_T87 l0 x4_1).f0.f1, (rd_T41 x3_1 (ji7)).f2, (rd_T41 x3_1 (ji7)).f3, (rd_T41 x3_1 (ji7)).f4, (rd_T41 x3_1 (ji7)).f5⟩ : S41)) (k41_mkM _ _ _ (⟨(rd_T41 x3_1 (ji7)).f0, (rd_T87 l0 x4_1).f0.f1, (rd_T41 x3_1 (ji7)).f2, (rd_T41 x3_1 (ji7)).f3, (rd_T41 x3_1 (ji7)).f4, (rd_T41 x3_1 (ji7)).f5⟩ : S41) ) (fun _ hk => hk)
   have hx20_1 := hcc20 1 _ rfl
   (try simp only [show (k41).sz = 6 from rfl, Nat.mul_one, Nat.add_zero] at hx20_1)
   have hf20_1 := hfr20 1
   (try simp only [show (k41).sz = 6 from rfl, Nat.mul_one, Nat.add_zero] at hf20_1)
   clear hcl20 hcc20 hfr20 hM20
   try go_wp2_with (first | ((with_reducible refine gate_store (t := 3) (p := 43) rfl ?_); refine store_event (t := 3) (p := 43) (v := ?vo_w21) (w1 := (w18.setCell ⟨go12, ((ji7) : Int).toNat * 6 + 1, none⟩ (.int .i64 ((rd_T87 l0 x4_1).f0.f1)))) ?hg ?ho ?hn ?hr ?_; (case ho => rfl); (case hg => rfl); (case hn => rfl); (case hr => first | (go_simp; done) | (go_simp; rfl)); intro w21 hw; have hg : w18.grownBy w21 (some go12) := (by rw [hw]; exact HP20.2); have hp_ : Kd.R k41 41 w21 w.heap.size (fun k_ => k_ ≠ gb147) (.slice (some ⟨go12, 0, none⟩) x3_1.length co15) y150 := (by rw [hw, Ny150.out]; exact HP20.1); clear HP20; have n0_ := Aside0.mk (hp_); have n1_ := Aside0.mk (blk_grown (g := gb147) (o := .cells #[.int .i64 ((rd_T87 l0 x4_1).f0.f0), .int .i64 ((rd_T87 l0 x4_1).f0.f1), .int .i64 ((rd_T87 l0 x4_1).f0.f2), .int .i64 ((rd_T87 l0 x4_1).f0.f3), .int .i64 ((rd_T87 l0 x4_1).f0.f4), .int .i64 ((rd_T87 l0 x4_1).f0.f5)] 41 (0, 0)) (by (with_reducible repeat (first | refine blk_drewN ?_ _ | refine blk_drew ?_ | refine blk_alloc ?_ _)); exact BK147.out) hg (Kd.R_away HO_3.out (fun _ hk => hk))); have n2_ := Aside0.mk ((by rw [hw]; exact below_set (HB.out) GB12.out : Below w.heap.size w w21)); clear HO_3; clear BK147; clear HB; have HO_3 := n0_; have BK147 := n1_; have HB := n2_; clear n0_ n1_ n2_; clear hg hw hp_))
   go_roundg k1
   case measure => have := HK1.out; omega
   case rel => exact ⟨(y150), (wrap64 (x4_1 + 1)), (by first | rfl | (simp; done) | (simp [*]; done)), H', ⟨by have := HK1.out; omega⟩, ⟨by (with_reducible repeat (first | apply Kd.R_alloc | apply Kd.R_drewN | apply Kd.R_drew)); exact Kd.R_mono HO_3.out (fun _ hk => trivial)⟩, ⟨by repeat (first | (with_reducible first | exact HB.out | apply below_alloc | apply pw_below_drewN | apply below_drew1 | refine below_set ?_ GE147.out) | exact HB.out)⟩⟩

/-! ### flyleafref15_Cut: function 84 -/
def flyleafref15_Cut.l0 : Nat → Int → Int → List (S87) → Int → Option ((List (S41)))
  | 0, _, _, _, _ => none
  | k + 1, x1, x2, x7, x8 => if x8 < 4096 then (if x8 ≥ x1 then (if x8 < x2 then (if 0 ≤ x8 then (if x8 < (x7.length : Int) then (flyleafref15_Cut.l0 k x1 x2 (x7.set (x8 : Int).toNat (⟨(⟨(rd_T87 x7 x8).f0.f0, (rd_T87 x7 x8).f0.f1, (rd_T87 x7 x8).f0.f2, (rd_T87 x7 x8).f0.f3, (rd_T87 x7 x8).f0.f4, (rd_T87 x7 x8).f0.f5⟩ : S41), false⟩ : S87)) (wrap64 (x8 + 1))) else (none)) else (none)) else (flyleafref15_Cut.l0 k x1 x2 x7 (wrap64 (x8 + 1)))) else (flyleafref15_Cut.l0 k x1 x2 x7 (wrap64 (x8 + 1)))) else ((flyleafref15_Row.f k x7).bind fun t161 => (some t161))
def flyleafref15_Cut.f (k : Nat) (l0 : List (S41)) (a1 : Int) (a2 : Int) : Option ((List (S41))) := (flyleafref15_Spread.f k l0).bind fun t157 => (flyleafref15_Cut.l0 k a1 a2 t157 0)
theorem flyleafref15_Cut.mono_l : ∀ k, (∀ y0 y1 y2 y3, LeO (flyleafref15_Cut.l0 k y0 y1 y2 y3) (flyleafref15_Cut.l0 (k + 1) y0 y1 y2 y3))
  | 0 => fun _ _ _ _ r h => by simp [flyleafref15_Cut.l0] at h
  | k + 1 => by
    have ih0 := flyleafref15_Cut.mono_l k
    · intro y0 y1 y2 y3
      unfold flyleafref15_Cut.l0
      repeat' first
      | (with_reducible exact ih0 _ _ _ _)
      | (with_reducible exact flyleafref15_Row.mono _ _)
      | (with_reducible exact flyleafref15_Spread.mono _ _)
      | (with_reducible exact LeO.refl _)
      | (with_reducible exact LeO.none _)
      | (with_reducible refine LeO.ite ?_ ?_)
      | (with_reducible refine LeO.bind ?_ (fun _ => ?_))
      | exact ih0 _ _ _ _
      | exact flyleafref15_Row.mono _ _
      | exact flyleafref15_Spread.mono _ _
      | exact LeO.none _
      | refine LeO.ite ?_ ?_
      | refine LeO.bind ?_ (fun _ => ?_)
theorem flyleafref15_Cut.mono : ∀ a0 a1 a2 k, LeO (flyleafref15_Cut.f k a0 a1 a2) (flyleafref15_Cut.f (k + 1) a0 a1 a2) := by
  intro a0 a1 a2 k
  have ih0 := flyleafref15_Cut.mono_l k
  unfold flyleafref15_Cut.f
  repeat' first
      | (with_reducible exact ih0 _ _ _ _)
      | (with_reducible exact flyleafref15_Row.mono _ _)
      | (with_reducible exact flyleafref15_Spread.mono _ _)
      | (with_reducible exact LeO.refl _)
      | (with_reducible exact LeO.none _)
      | (with_reducible refine LeO.ite ?_ ?_)
      | (with_reducible refine LeO.bind ?_ (fun _ => ?_))
      | exact ih0 _ _ _ _
      | exact flyleafref15_Row.mono _ _
      | exact flyleafref15_Spread.mono _ _
      | exact LeO.none _
      | refine LeO.ite ?_ ?_
      | refine LeO.bind ?_ (fun _ => ?_)
set_option maxHeartbeats 8000000 in
set_option maxRecDepth 100000 in
theorem flyleafref15_Cut.calls (k : Nat) (A0 : Option Addr) (c0 : Nat) (l0 : List (S41)) (a1 : Int) (a2 : Int) (r : List (S41)) (w : World) (hr0 : Kd.C k41 w A0 l0.length l0) (hc0 : l0.length ≤ c0) (h : flyleafref15_Cut.f k l0 a1 a2 = some r) :
    Calls Try.prog 84 #[.slice A0 l0.length c0, .int .i64 a1, .int .i64 a2] w fun e w' => ∃ v0_ : Value, e = .returned (v0_) ∧ Kd.R k41 41 w' w.heap.size (fun _ => True) v0_ r ∧ Below w.heap.size w w' := by
 have HR0 := Aside0.mk hr0
 have HC0 := Aside0.mk hc0
 clear hr0 hc0
 have HB := Aside0.mk (Below.refl w.heap.size w)
 have H : ((flyleafref15_Spread.f k l0).bind fun t157 => (flyleafref15_Cut.l0 k a1 a2 t157 0)) = some r := h
 clear h
 replace H := Option.bind_eq_some_iff.mp H
 obtain ⟨t157, A40, H⟩ := H
 replace H : (flyleafref15_Cut.l0 k a1 a2 t157 0) = some r := H
 have A4 := Aside0.mk A40
 clear A40
 have H' := Aside0.mk H
 clear H
 go_enter Try.func84, Try.ntmps84
 go_wp2_with (first | ((with_reducible refine gate_callee (f := 44) rfl ?_); refine goesL_ (some 10) rfl rfl Try.func44 (by kernel_rfl) rfl #[.slice A0 l0.length c0] rfl (by (try simp only [List.map_toArray, List.map_cons, List.map_nil]); first | done | rfl | (simp only [List.length_drop, List.length_take]; rfl)) ?_; (with_reducible refine (flyleafref15_Spread.calls k _ _ l0 t157 _ ?side1 ?side2 A4.out).mono ?_); (case side1 => repeat (first | exact HR0.out | (with_reducible refine Kd.C_alloc ?_ _) | (with_reducible refine Kd.C_drewN ?_ _) | (with_reducible refine Kd.C_drew ?_))); (case side2 => exact HC0.out); rintro e w5 ⟨v158, rfl, ho0, hb⟩; refine ⟨_, rfl, ?_⟩; have n0_ := Aside0.mk (Kd.R_lower ho0 (below_size (by repeat (first | (with_reducible first | exact HB.out | apply below_alloc | apply pw_below_drewN | apply below_drew1) | exact HB.out)))); have n1_ := Aside0.mk (below_step (by repeat (first | (with_reducible first | exact HB.out | apply below_alloc | apply pw_below_drewN | apply below_drew1) | exact HB.out)) hb); clear HB; have HO159 := n0_; have HB := n1_; clear n0_ n1_; (try clear hb); (try clear hb2); (try clear hk); (try clear hi); (try clear ho0)))
 go_loopg [8] k (fun kq v8 w' => ∃ (x7_1 : List (S87)) (x8_1 : Int), v8 = .int .i64 x8_1 ∧ Aside0 (flyleafref15_Cut.l0 kq a1 a2 x7_1 x8_1 = some r) ∧ Aside0 (kq ≤ k) ∧ Aside0 (Kd.R k87 87 w' w.heap.size (fun _ => True) v158 x7_1) ∧ Aside0 (Below w.heap.size w w'))
 case atStart => exact ⟨(t157), (0), (by first | rfl | (simp; done) | (simp [*]; done)), H', ⟨Nat.le_refl _⟩, ⟨by (with_reducible repeat (first | apply Kd.R_alloc | apply Kd.R_drewN | apply Kd.R_drew)); exact HO159.out⟩, ⟨by repeat (first | (with_reducible first | exact HB.out | apply below_alloc | apply pw_below_drewN | apply below_drew1) | exact HB.out)⟩⟩
 case round =>
  clear H'
  try clear p2
  try clear c4
  obtain ⟨x7_1, x8_1, rfl, HA, HK1, HO_7, HB⟩ := hrel
  cases gk with
  | zero => exact absurd HA.out (by simp [flyleafref15_Cut.l0])
  | succ k1 =>
   have H := HA.out
   clear HA
   simp only [flyleafref15_Cut.l0] at H
   by_cases c6 : x8_1 < 4096
   rotate_left
   · rw [if_neg c6] at H
     have c6b0 : decide (x8_1 < 4096) = false := decide_eq_false c6
     clear c6
     replace H := Option.bind_eq_some_iff.mp H
     obtain ⟨t161, A140, H⟩ := H
     replace H : (some t161) = some r := H
     have A14 := Aside0.mk A140
     clear A140
     obtain rfl := Option.some.inj H
     obtain ⟨Ao15, co15, eo15⟩ := Kd.R_slice HO_7.out
     subst eo15
     go_wp2_with (first | ((with_reducible refine gate_callee (f := 116) rfl ?_); refine goesL_ (some 28) rfl rfl Try.func116 (by kernel_rfl) rfl #[.slice Ao15 x7_1.length co15] rfl (by (try simp only [List.map_toArray, List.map_cons, List.map_nil]); first | done | rfl | (simp only [List.length_drop, List.length_take]; rfl)) ?_; (with_reducible refine (flyleafref15_Row.calls k1 _ _ x7_1 t161 _ ?side1 ?side2 A14.out).mono ?_); (case side1 => repeat (first | exact (Kd.R_reads' HO_7.out).2.2 | (with_reducible refine Kd.C_alloc ?_ _) | (with_reducible refine Kd.C_drewN ?_ _) | (with_reducible refine Kd.C_drew ?_))); (case side2 => exact (Kd.R_reads' HO_7.out).2.1); rintro e w16 ⟨v162, rfl, ho0, hb⟩; refine ⟨_, rfl, ?_⟩; have n0_ := Aside0.mk (Kd.R_below (by (with_reducible repeat (first | apply Kd.R_alloc | apply Kd.R_drewN | apply Kd.R_drew)); exact HO_7.out) hb); have n1_ := Aside0.mk (Kd.R_lower ho0 (below_size (by repeat (first | (with_reducible first | exact HB.out | apply below_alloc | apply pw_below_drewN | apply below_drew1) | exact HB.out)))); have n2_ := Aside0.mk (below_step (by repeat (first | (with_reducible first | exact HB.out | apply below_alloc | apply pw_below_drewN | apply below_drew1) | exact HB.out)) hb); clear HO_7; clear HB; have HO_7 := n0_; have HO163 := n1_; have HB := n2_; clear n0_ n1_ n2_; (try clear hb); (try clear hb2); (try clear hk); (try clear hi); (try clear ho0)))
     go_ret
     exact ⟨_, by first | rfl | (simp [errW_none, errW_some] <;> rfl) | (simp [*, errW_none, errW_some] <;> rfl), by (with_reducible repeat (first | apply Kd.R_alloc | apply Kd.R_drewN | apply Kd.R_drew)); exact HO163.out, by repeat (first | (with_reducible first | exact HB.out | apply below_alloc | apply pw_below_drewN | apply below_drew1) | exact HB.out)⟩
   rw [if_pos c6] at H
   have c6b0 : decide (x8_1 < 4096) = true := decide_eq_true c6
   clear c6
   by_cases c7 : x8_1 ≥ a1
   rotate_left
   · rw [if_neg c7] at H
     have c7b0 : decide (a1 ≤ x8_1) = false := decide_eq_false c7
     clear c7
     have H' := Aside0.mk H
     clear H
     go_wp2
     go_roundg k1
     case measure => have := HK1.out; omega
     case rel => exact ⟨(x7_1), (wrap64 (x8_1 + 1)), (by first | rfl | (simp; done) | (simp [*]; done)), H', ⟨by have := HK1.out; omega⟩, ⟨by (with_reducible repeat (first | apply Kd.R_alloc | apply Kd.R_drewN | apply Kd.R_drew)); exact HO_7.out⟩, ⟨by repeat (first | (with_reducible first | exact HB.out | apply below_alloc | apply pw_below_drewN | apply below_drew1) | exact HB.out)⟩⟩
   rw [if_pos c7] at H
   have c7b0 : decide (a1 ≤ x8_1) = true := decide_eq_true c7
   clear c7
   by_cases c8 : x8_1 < a2
   rotate_left
   · rw [if_neg c8] at H
     have c8b0 : decide (x8_1 < a2) = false := decide_eq_false c8
     clear c8
     have H' := Aside0.mk H
     clear H
     go_wp2
     go_roundg k1
     case measure => have := HK1.out; omega
     case rel => exact ⟨(x7_1), (wrap64 (x8_1 + 1)), (by first | rfl | (simp; done) | (simp [*]; done)), H', ⟨by have := HK1.out; omega⟩, ⟨by (with_reducible repeat (first | apply Kd.R_alloc | apply Kd.R_drewN | apply Kd.R_drew)); exact HO_7.out⟩, ⟨by repeat (first | (with_reducible first | exact HB.out | apply below_alloc | apply pw_below_drewN | apply below_drew1) | exact HB.out)⟩⟩
   rw [if_pos c8] at H
   have c8b0 : decide (x8_1 < a2) = true := decide_eq_true c8
   clear c8
   by_cases c9 : 0 ≤ x8_1
   rotate_left
   · rw [if_neg c9] at H
     exact absurd H (by simp)
   rw [if_pos c9] at H
   have c9b0 : decide (0 ≤ x8_1) = true := decide_eq_true c9
   clear c9
   by_cases c10 : x8_1 < (x7_1.length : Int)
   rotate_left
   · rw [if_neg c10] at H
     exact absurd H (by simp)
   rw [if_pos c10] at H
   have c10b0 : decide (x8_1 < (x7_1.length : Int)) = true := decide_eq_true c10
   clear c10
   obtain ⟨y160, hy160⟩ : ∃ y_ : List (S87), y_ = (x7_1.set (x8_1 : Int).toNat (⟨(⟨(rd_T87 x7_1 x8_1).f0.f0, (rd_T87 x7_1 x8_1).f0.f1, (rd_T87 x7_1 x8_1).f0.f2, (rd_T87 x7_1 x8_1).f0.f3, (rd_T87 x7_1 x8_1).f0.f4, (rd_T87 x7_1 x8_1).f0.f5⟩ : S41), false⟩ : S87)) := ⟨_, rfl⟩
   replace H : (flyleafref15_Cut.l0 k1 a1 a2 y160 (wrap64 (x8_1 + 1))) = some r := by first | (rw [hy160]; with_reducible exact H) | (have H2_ := (Option.bind_some _ _).symm.trans H; rw [hy160]; with_reducible exact H2_) | (have H2_ := (Option.bind_some _ _).symm.trans H; with_reducible exact H2_) | with_reducible exact H | (rw [hy160]; exact H) | exact H
   have Ny160 := Aside0.mk hy160
   clear hy160
   have H' := Aside0.mk H
   clear H
   have p11 : 0 ≤ (x8_1 : Int) := of_decide_eq_true (by first | (with_reducible assumption) | assumption)
   have q11 : (x8_1 : Int) < ((x7_1.length : Int) : Int) := of_decide_eq_true (by first | (with_reducible assumption) | assumption)
   obtain ⟨go11, co11, eo11, gb11, gl11, cl11, HG11⟩ := Kd.R_form HO_7.out (by omega)
   (first | cases eo11 | (injection eo11 with ea_ en_ ec_; (first | subst ea_ | (injection ea_ with ea_; subst ea_)); subst ec_; clear en_))
   have GB11 := Aside0.mk gb11
   have GG11 := Aside0.mk HG11
   clear gb11 gl11 HG11
   obtain ⟨ce11, hcl11, hM11, hcc11, hfr11⟩ := Kd.R_elem HO_7.out z87 (x8_1 : Int) p11 q11
   obtain rfl := k87_openM hM11
   have hx11_0 : wr.cell? ⟨go11, (x8_1 : Int).toNat * 7, none⟩ = some (.int .i64 ((rd_T87 x7_1 x8_1).f0.f0)) := hcc11 0 _ rfl
   have hx11_1 : wr.cell? ⟨go11, (x8_1 : Int).toNat * 7 + 1, none⟩ = some (.int .i64 ((rd_T87 x7_1 x8_1).f0.f1)) := hcc11 1 _ rfl
   have hx11_2 : wr.cell? ⟨go11, (x8_1 : Int).toNat * 7 + 2, none⟩ = some (.int .i64 ((rd_T87 x7_1 x8_1).f0.f2)) := hcc11 2 _ rfl
   have hx11_3 : wr.cell? ⟨go11, (x8_1 : Int).toNat * 7 + 3, none⟩ = some (.int .i64 ((rd_T87 x7_1 x8_1).f0.f3)) := hcc11 3 _ rfl
   have hx11_4 : wr.cell? ⟨go11, (x8_1 : Int).toNat * 7 + 4, none⟩ = some (.int .i64 ((rd_T87 x7_1 x8_1).f0.f4)) := hcc11 4 _ rfl
   have hx11_5 : wr.cell? ⟨go11, (x8_1 : Int).toNat * 7 + 5, none⟩ = some (.int .i64 ((rd_T87 x7_1 x8_1).f0.f5)) := hcc11 5 _ rfl
   have hx11_6 : wr.cell? ⟨go11, (x8_1 : Int).toNat * 7 + 6, none⟩ = some (.bool ((rd_T87 x7_1 x8_1).f1)) := hcc11 6 _ rfl
   have hf11_0 : wr.frozen? ⟨go11, (x8_1 : Int).toNat * 7, none⟩ = false := hfr11 0
   have hf11_1 : wr.frozen? ⟨go11, (x8_1 : Int).toNat * 7 + 1, none⟩ = false := hfr11 1
   have hf11_2 : wr.frozen? ⟨go11, (x8_1 : Int).toNat * 7 + 2, none⟩ = false := hfr11 2
   have hf11_3 : wr.frozen? ⟨go11, (x8_1 : Int).toNat * 7 + 3, none⟩ = false := hfr11 3
   have hf11_4 : wr.frozen? ⟨go11, (x8_1 : Int).toNat * 7 + 4, none⟩ = false := hfr11 4
   have hf11_5 : wr.frozen? ⟨go11, (x8_1 : Int).toNat * 7 + 5, none⟩ = false := hfr11 5
   have hf11_6 : wr.frozen? ⟨go11, (x8_1 : Int).toNat * 7 + 6, none⟩ = false := hfr11 6
   clear hcl11 hcc11 hfr11 hM11
   replace p11 := eq_true p11
   replace q11 := eq_true q11
   have HX12 := Aside0.mk (show Kd.R k87 87 wr w.heap.size (fun _ => True) (.slice (some ⟨go11, 0, none⟩) x7_1.length co11) x7_1 from (by (with_reducible repeat (first | apply Kd.R_alloc | apply Kd.R_drewN | apply Kd.R_drew)); exact HO_7.out))
   obtain ⟨ce12, hcl12, hM12, hcc12, hfr12⟩ := Kd.R_elem HX12.out z87 (x8_1 : Int) (of_decide_eq_true (by first | (with_reducible assumption) | assumption)) (by have h_ : (x8_1 : Int) < ((x7_1.length : Int) : Int) := of_decide_eq_true (by first | (with_reducible assumption) | assumption); first | exact h_ | (have e_ := (Kd.R_reads' HO_7.out).1; omega) | simpa using h_)
   obtain rfl := k87_openM hM12
   have HP12 := Kd.R_seg HX12.out (x8_1 : Int) (of_decide_eq_true (by first | (with_reducible assumption) | assumption)) (by have h_ : (x8_1 : Int) < ((x7_1.length : Int) : Int) := of_decide_eq_true (by first | (with_reducible assumption) | assumption); first | exact h_ | (have e_ := (Kd.R_reads' HO_7.out).1; omega) | simpa using h_) (seg := [.bool false]) (j := 6) hcl12 hcc12 (show 7 ≤ 7 from by decide) (x' := (⟨(⟨(rd_T87 x7_1 x8_1).f0.f0, (rd_T87 x7_1 x8_1).f0.f1, (rd_T87 x7_1 x8_1).f0.f2, (rd_T87 x7_1 x8_1).f0.f3, (rd_T87 x7_1 x8_1).f0.f4, (rd_T87 x7_1 x8_1).f0.f5⟩ : S41), false⟩ : S87)) (k87_mkM _ _ _ (⟨(⟨(rd_T87 x7_1 x8_1).f0.f0, (rd_T87 x7_1 x8_1).f0.f1, (rd_T87 x7_1 x8_1).f0.f2, (rd_T87 x7_1 x8_1).f0.f3, (rd_T87 x7_1 x8_1).f0.f4, (rd_T87 x7_1 x8_1).f0.f5⟩ : S41), false⟩ : S87) ) (fun _ hk => hk)
   have hx12_6 := hcc12 6 _ rfl
   (try simp only [show (k87).sz = 7 from rfl, Nat.mul_one, Nat.add_zero] at hx12_6)
   have hf12_6 := hfr12 6
   (try simp only [show (k87).sz = 7 from rfl, Nat.mul_one, Nat.add_zero] at hf12_6)
   clear hcl12 hcc12 hfr12 hM12
   go_wp2_with (first | ((with_reducible refine gate_store (t := 4) (p := 26) rfl ?_); refine store_event (t := 4) (p := 26) (v := ?vo_w13) (w1 := (wr.setCell ⟨go11, (x8_1 : Int).toNat * 7 + 6, none⟩ (.bool false))) ?hg ?ho ?hn ?hr ?_; (case ho => rfl); (case hg => rfl); (case hn => rfl); (case hr => first | (go_simp; done) | (go_simp; rfl)); intro w13 hw; have hg : wr.grownBy w13 (some go11) := (by rw [hw]; exact HP12.2); have hp_ : Kd.R k87 87 w13 w.heap.size (fun _ => True) (.slice (some ⟨go11, 0, none⟩) x7_1.length co11) y160 := (by rw [hw, Ny160.out]; exact HP12.1); clear HP12; have n0_ := Aside0.mk (hp_); have n1_ := Aside0.mk ((by rw [hw]; exact below_set (HB.out) GB11.out : Below w.heap.size w w13)); clear HO_7; clear HB; have HO_7 := n0_; have HB := n1_; clear n0_ n1_; clear hg hw hp_))
   go_roundg k1
   case measure => have := HK1.out; omega
   case rel => exact ⟨(y160), (wrap64 (x8_1 + 1)), (by first | rfl | (simp; done) | (simp [*]; done)), H', ⟨by have := HK1.out; omega⟩, ⟨by (with_reducible repeat (first | apply Kd.R_alloc | apply Kd.R_drewN | apply Kd.R_drew)); exact HO_7.out⟩, ⟨by repeat (first | (with_reducible first | exact HB.out | apply below_alloc | apply pw_below_drewN | apply below_drew1) | exact HB.out)⟩⟩

end Go.Proofs.Ytafmeagfockdfaa.Rg
