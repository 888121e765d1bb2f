-- Written by prn.py, a program of this session over the kit's printer. Not trusted: Lean checks it.
import Derived.Test.YtafmeagfockdfaaPl0
import Derived.Test.YtafmeagfockdfaaPl3
import Derived.Test.YtafmeagfockdfaaPl7d
import Derived.Test.YtafmeagfockdfaaSq
namespace Go.Proofs.Ytafmeagfockdfaa.Pl
open Go.Proofs.Ytafmeagfockdfaa.Sq
open Go.RowKit Go.Proofs.YtafmeagfockdfaaW.PrintWords Go.Proofs.YtafmeagfockdfaaW.PrintLast Go.Proofs.YtafmeagfockdfaaW.PrintMore
attribute [local go_sem] max2_int min2_int max_two min_two max_three min_three max_four min_four   -- for this text's walks alone
set_option linter.unusedVariables false
set_option linter.unusedSimpArgs false

def flyleaflaw13_PlaceApart.T6 : Bool × List (List Nat × List Nat) := (true, [([], []), ([], []), ([], []), ([1, 2], [1, 2]), ([3], [3]), ([4], [4]), ([5], [5]), ([6], [6]), ([], []), ([], []), ([8, 9], [8, 9]), ([10], [10]), ([11], [11]), ([12], [12]), ([13], [13]), ([7, 14], [7, 14]), ([15], [15]), ([0, 16], [0, 16]), ([17, 17, 0, 1, 2, 3, 4, 5, 6, 7, 8, 9, 10, 11, 12, 13, 14, 15, 16, 17], [0, 17])])
def flyleaflaw13_PlaceApart.B6 : List Nat := [0, 0, 0, 6, 14, 30, 62, 126, 0, 0, 768, 1792, 3840, 7936, 16128, 32766, 65534, 131071, 262143]
theorem flyleaflaw13_PlaceApart.tab6 : rtab .any (opsOf Try.f4 6) = flyleaflaw13_PlaceApart.T6 := by kernel_rfl
theorem flyleaflaw13_PlaceApart.bits6 : waitsOk flyleaflaw13_PlaceApart.T6.2 flyleaflaw13_PlaceApart.B6 = true := by kernel_rfl
def flyleaflaw13_PlaceApart.T25 : Bool × List (List Nat × List Nat) := (true, [([], []), ([], []), ([0, 1], [0, 1]), ([2], [2]), ([], []), ([], []), ([4, 5], [4, 5]), ([6], [6]), ([], []), ([7, 8], [7, 8]), ([3, 9], [3, 9]), ([10], [10]), ([11], [11]), ([11], [11]), ([12, 13, 11], [11, 12, 13]), ([14, 11], [11, 14]), ([11], [11]), ([11], [11]), ([16, 17, 11], [11, 16, 17]), ([18, 11], [11, 18]), ([11], [11]), ([19, 20, 11], [11, 19, 20]), ([15, 21, 11], [11, 15, 21]), ([11, 22], [11, 22])])
def flyleaflaw13_PlaceApart.B25 : List Nat := [0, 0, 3, 7, 0, 0, 48, 112, 0, 496, 1023, 2047, 4095, 4095, 16383, 32767, 4095, 4095, 200703, 462847, 4095, 2035711, 4194303, 8388607]
theorem flyleaflaw13_PlaceApart.tab25 : rtab .any (opsOf Try.f4 25) = flyleaflaw13_PlaceApart.T25 := by kernel_rfl
theorem flyleaflaw13_PlaceApart.bits25 : waitsOk flyleaflaw13_PlaceApart.T25.2 flyleaflaw13_PlaceApart.B25 = true := by kernel_rfl
def flyleaflaw13_PlaceApart.T27 : Bool × List (List Nat × List Nat) := (true, [([], []), ([0], [0]), ([1], [1]), ([1], [1]), ([2, 3, 1], [1, 2, 3]), ([4, 1], [1, 4]), ([5, 1], [1, 5]), ([1], [1]), ([1], [1]), ([7, 8, 1], [1, 7, 8]), ([9, 1], [1, 9]), ([1], [1]), ([10, 11, 1], [1, 10, 11]), ([6, 12, 1], [1, 6, 12]), ([13, 1, 1], [1, 13]), ([14], [14]), ([14], [14]), ([15, 16, 14], [14, 15, 16]), ([17, 14], [14, 17]), ([14], [14]), ([14], [14]), ([19, 20, 14], [14, 19, 20]), ([21, 14], [14, 21]), ([22, 14], [14, 22]), ([14], [14]), ([23, 24, 14], [14, 23, 24]), ([18, 25, 14], [14, 18, 25]), ([14, 26, 1], [1, 14, 26]), ([1, 27], [1, 27]), ([28, 14, 0, 1, 2, 3, 4, 5, 6, 7, 8, 9, 10, 11, 12, 13, 14, 15, 16, 17, 18, 19, 20, 21, 22, 23, 24, 25, 26, 27, 28], [0, 28])])
def flyleaflaw13_PlaceApart.B27 : List Nat := [0, 1, 3, 3, 15, 31, 63, 3, 3, 387, 899, 3, 3971, 8191, 16383, 32767, 32767, 131071, 262143, 32767, 32767, 1605631, 3702783, 7897087, 32767, 33062911, 67108863, 134217727, 268435455, 536870911]
theorem flyleaflaw13_PlaceApart.tab27 : rtab .any (opsOf Try.f4 27) = flyleaflaw13_PlaceApart.T27 := by kernel_rfl
theorem flyleaflaw13_PlaceApart.bits27 : waitsOk flyleaflaw13_PlaceApart.T27.2 flyleaflaw13_PlaceApart.B27 = true := by kernel_rfl
def flyleaflaw13_PlaceApart.T28 : Bool × List (List Nat × List Nat) := (true, [([], []), ([0], [0]), ([1], [1]), ([1], [1]), ([2, 3, 1], [1, 2, 3]), ([4, 1], [1, 4]), ([1], [1]), ([1], [1]), ([6, 7, 1], [1, 6, 7]), ([8, 1], [1, 8]), ([9, 1], [1, 9]), ([5, 10, 1], [1, 5, 10]), ([1, 11], [1, 11])])
def flyleaflaw13_PlaceApart.B28 : List Nat := [0, 1, 3, 3, 15, 31, 3, 3, 195, 451, 963, 2047, 4095]
theorem flyleaflaw13_PlaceApart.tab28 : rtab .any (opsOf Try.f4 28) = flyleaflaw13_PlaceApart.T28 := by kernel_rfl
theorem flyleaflaw13_PlaceApart.bits28 : waitsOk flyleaflaw13_PlaceApart.T28.2 flyleaflaw13_PlaceApart.B28 = true := by kernel_rfl
set_option maxHeartbeats 8000000 in
set_option maxRecDepth 100000 in
theorem flyleaflaw13_PlaceApart.calls (k : Nat) (A0 : Option Addr) (c0 : Nat) (l0 : List (S32)) (a1_0 : Int) (a1_1 : Int) (r : Bool) (w : World) (hr0 : Kd.C k32 w A0 l0.length l0) (hc0 : l0.length ≤ c0) (h : flyleaflaw13_PlaceApart.f k l0 a1_0 a1_1 = some r) :
    Calls Try.prog 4 #[.slice A0 l0.length c0, .agg #[.int .i64 a1_0, .int .i64 a1_1]] w fun e w' => e = .returned (.bool r) ∧ Below w.heap.size w w' := by
 have hu32 := Try.underlying32
 have hu34 := Try.underlying34
 have HR0 := Aside0.mk hr0
 have HC0 := Aside0.mk hc0
 clear hr0 hc0
 have HB := Aside0.mk (Below.refl w.heap.size w)
 have H : ((flyleaflaw13_awake.f k).bind fun t183 => (flyleaflaw13_PlaceApart.l0 k l0 t183 ([] : List (S34)) 0 a1_0 a1_1)) = some r := h
 clear h
 replace H := Option.bind_eq_some_iff.mp H
 obtain ⟨t183, A30, H⟩ := H
 replace H : (flyleaflaw13_PlaceApart.l0 k l0 t183 ([] : List (S34)) 0 a1_0 a1_1) = some r := H
 have A3 := Aside0.mk A30
 clear A30
 have HC4 := Aside0.mk H
 clear H
 go_enter Try.func4, Try.ntmps4
 go_upto_block 0 with (first | ((with_reducible refine gate_dst (N := 3) rfl ?_); (try (refine gate_guard (by rfl) ?_; dsimp only)); refine box_event ?hg (N := 3) ?hd (cs := #[.int .i64 a1_0, .int .i64 a1_1]) (t := 32) ?hr ?_; (case hd => rfl); (case hg => rfl); (case hr => first | (go_simp; done) | (go_simp; rfl)); intro gb182 hg w5 hbox hb; have n0_ := Aside0.mk (below_step (by repeat (first | (with_reducible first | exact HB.out | apply below_alloc | apply pw_below_drewN | apply below_drew1) | exact HB.out)) hb); have n1_ := Aside0.mk (hbox); have n2_ := Aside0.mk ((by rw [hg]; exact (below_size (by repeat (first | (with_reducible first | exact HB.out | apply below_alloc | apply pw_below_drewN | apply below_drew1) | exact HB.out))) : w.heap.size ≤ gb182)); have n3_ := Aside0.mk ((by rw [hg]; exact (below_size (by repeat (first | (with_reducible first | exact HB.out | apply below_alloc | apply pw_below_drewN | apply below_drew1) | exact HB.out))) : w.heap.size ≤ gb182)); clear HB; have HB := n0_; have BK182 := n1_; have GW182 := n2_; have GE182 := n3_; clear n0_ n1_ n2_ n3_; clear hb hbox hg) | ((with_reducible refine gate_callee (f := 17) rfl ?_); refine goesL_ (some 17) rfl rfl Try.func17 (by kernel_rfl) rfl #[] rfl (by (try simp only [List.map_toArray, List.map_cons, List.map_nil]); first | done | rfl | (simp only [List.length_drop, List.length_take]; rfl)) ?_; (with_reducible refine (flyleaflaw13_awake.calls k  t183 _ A3.out).mono ?_); rintro e w6 ⟨rfl, hb⟩; refine ⟨_, rfl, ?_⟩; have n0_ := Aside0.mk (blk_below (g := gb182) (o := .cells #[.int .i64 a1_0, .int .i64 a1_1] 32 (0, 0)) (by (with_reducible repeat (first | refine blk_drewN ?_ _ | refine blk_drew ?_ | refine blk_alloc ?_ _)); exact BK182.out) hb); have n1_ := Aside0.mk (below_step (by repeat (first | (with_reducible first | exact HB.out | apply below_alloc | apply pw_below_drewN | apply below_drew1 | refine below_set ?_ GE182.out) | exact HB.out)) hb); clear BK182; clear HB; have BK182 := n0_; have HB := n1_; clear n0_ n1_; (try clear hb); (try clear hb2); (try clear hk); (try clear hi)))
 (try simp only [Act.put, List.setIfInBounds_toArray, List.set_cons_zero, List.set_cons_succ])
 go_cut [6] (fun v6 wc => ∃ (kq : Nat) (x6_3 : List (S34)), Aside0 (flyleaflaw13_PlaceApart.j1 kq t183 x6_3 a1_0 a1_1 = some r) ∧ Aside0 (kq ≤ k) ∧ Aside0 (Kd.R k34 34 wc w.heap.size (fun _ => True) v6 x6_3) ∧ Aside0 (wc.heap[gb182]? = some (.cells #[.int .i64 a1_0, .int .i64 a1_1] 32 (0, 0))) ∧ Aside0 (Below w.heap.size w wc))
 case first =>
  as_aux_lemma =>
   have H := HC4.out
   clear HC4
   have H' := Aside0.mk H
   clear H
   go_wp2
   go_loopg [6, 7] k (fun kq v6 v7 w' => ∃ (x6_1 : List (S34)) (x7_1 : Int), v7 = .int .i64 x7_1 ∧ Aside0 (flyleaflaw13_PlaceApart.l0 kq l0 t183 x6_1 x7_1 a1_0 a1_1 = some r) ∧ Aside0 (kq ≤ k) ∧ Aside0 (Kd.R k34 34 w' w.heap.size (fun _ => True) v6 x6_1) ∧ Aside0 (w'.heap[gb182]? = some (.cells #[.int .i64 a1_0, .int .i64 a1_1] 32 (0, 0))) ∧ Aside0 (Below w.heap.size w w'))
   case atStart => exact ⟨(([] : List (S34))), (0), (by first | rfl | (simp; done) | (simp [*]; done)), H', ⟨Nat.le_refl _⟩, ⟨by first | exact Kd.R_nil _ _ _ _ _ | exact Kd.N_nil _ _ _ _ _ | exact Kd.V_nil _ _ _ _ _ | exact Kd.Q_nil _ _ _ _ _ | exact Kd.S_nil _ _ _ _ _⟩, ⟨by (with_reducible repeat (first | refine blk_drewN ?_ _ | refine blk_drew ?_ | refine blk_alloc ?_ _)); exact BK182.out⟩, ⟨by repeat (first | (with_reducible first | exact HB.out | apply below_alloc | apply pw_below_drewN | apply below_drew1 | refine below_set ?_ GE182.out) | exact HB.out)⟩⟩
   case round =>
    as_aux_lemma =>
     clear H'
     try clear c1
     try clear p2
     try clear c4
     obtain ⟨x6_1, x7_1, rfl, HA, HK1, HO_6, BK182, HB⟩ := hrel
     cases gk with
     | zero => exact absurd HA.out (by simp [flyleaflaw13_PlaceApart.l0])
     | succ k1 =>
      have H := HA.out
      clear HA
      simp only [flyleaflaw13_PlaceApart.l0] at H
      by_cases c7 : x7_1 < (l0.length : Int)
      rotate_left
      · rw [if_neg c7] at H
        have c7b0 : decide (x7_1 < (l0.length : Int)) = false := decide_eq_false c7
        clear c7
        (first | rw [c7b0] | (simp only [i64_w, i32_w]; rw [c7b0]) | skip)
        as_aux_lemma =>
         have H' := Aside0.mk H
         clear H
         go_wp2
         go_meet
         case rel => exact ⟨_, (x6_1), H', ⟨by have := HK1.out; first | omega | exact Nat.le_refl _⟩, ⟨by (with_reducible repeat (first | apply Kd.R_alloc | apply Kd.R_drewN | apply Kd.R_drew)); exact HO_6.out⟩, ⟨by (with_reducible repeat (first | refine blk_drewN ?_ _ | refine blk_drew ?_ | refine blk_alloc ?_ _)); exact BK182.out⟩, ⟨by repeat (first | (with_reducible first | exact HB.out | apply below_alloc | apply pw_below_drewN | apply below_drew1 | refine below_set ?_ GE182.out) | exact HB.out)⟩⟩
      rw [if_pos c7] at H
      have c7b0 : decide (x7_1 < (l0.length : Int)) = true := decide_eq_true c7
      clear c7
      (first | rw [c7b0] | (simp only [i64_w, i32_w]; rw [c7b0]) | skip)
      by_cases c8 : x7_1 < 12
      rotate_left
      · rw [if_neg c8] at H
        have c8b0 : decide (x7_1 < 12) = false := decide_eq_false c8
        clear c8
        as_aux_lemma =>
         have H' := Aside0.mk H
         clear H
         go_wp2
         go_meet
         case rel => exact ⟨_, (x6_1), H', ⟨by have := HK1.out; first | omega | exact Nat.le_refl _⟩, ⟨by (with_reducible repeat (first | apply Kd.R_alloc | apply Kd.R_drewN | apply Kd.R_drew)); exact HO_6.out⟩, ⟨by (with_reducible repeat (first | refine blk_drewN ?_ _ | refine blk_drew ?_ | refine blk_alloc ?_ _)); exact BK182.out⟩, ⟨by repeat (first | (with_reducible first | exact HB.out | apply below_alloc | apply pw_below_drewN | apply below_drew1 | refine below_set ?_ GE182.out) | exact HB.out)⟩⟩
      rw [if_pos c8] at H
      have c8b0 : decide (x7_1 < 12) = true := decide_eq_true c8
      clear c8
      by_cases c9 : 0 ≤ x7_1
      rotate_left
      · rw [if_neg c9] at H
        exact absurd H (by simp)
      rw [if_pos c9] at H
      have c9b0 : decide (0 ≤ x7_1) = true := decide_eq_true c9
      clear c9
      by_cases c10 : x6_1.length < 8796093022208
      rotate_left
      · rw [if_neg c10] at H
        exact absurd H (by simp)
      rw [if_pos c10] at H
      have LMc10 := Aside0.mk c10
      clear c10
      obtain ⟨y186, hy186⟩ : ∃ y_ : List (S34), y_ = (x6_1 ++ [(⟨wrap64 (1 + (Go.bits .and .i64 ((rd_T32 l0 x7_1).f0) 511)), wrap64 (64 * (Go.bits .and .i64 ((rd_T32 l0 x7_1).f1) 255))⟩ : S34)]) := ⟨_, rfl⟩
      replace H : (flyleaflaw13_PlaceApart.l0 k1 l0 t183 y186 (wrap64 (x7_1 + 1)) a1_0 a1_1) = some r := by first | (rw [hy186]; with_reducible exact H) | (have H2_ := (Option.bind_some _ _).symm.trans H; rw [hy186]; with_reducible exact H2_) | (have H2_ := (Option.bind_some _ _).symm.trans H; with_reducible exact H2_) | with_reducible exact H | (rw [hy186]; exact H) | exact H
      have Ny186 := Aside0.mk hy186
      clear hy186
      as_aux_lemma =>
       have H' := Aside0.mk H
       clear H
       try go_wp2
       have n0_ := Aside0.mk (Kd.R_drew HO_6.out)
       have n1_ := Aside0.mk (blk_drew BK182.out)
       have n2_ := Aside0.mk (below_drew1 HB.out)
       clear HO_6
       clear BK182
       clear HB
       have HO_6 := n0_
       have BK182 := n1_
       have HB := n2_
       clear n0_ n1_ n2_
       have p184 : 0 ≤ (x7_1 : Int) := of_decide_eq_true (by first | (with_reducible assumption) | assumption)
       have q184 : x7_1 < (l0.length : Int) := of_decide_eq_true (by first | (with_reducible assumption) | assumption)
       obtain ⟨ad184, e184, hx184_0, hx184_1⟩ := at_T32 HR0.out x7_1 p184 q184
       have hw184_1 := hx184_1
       have hw184_0 := hx184_0
       cases e184
       replace hx184_0 := up_ hx184_0 HB.out
       replace hx184_1 := up_ hx184_1 HB.out
       replace p184 := eq_true p184
       replace q184 := eq_true q184
       have p185 : 0 ≤ (x7_1 : Int) := of_decide_eq_true (by first | (with_reducible assumption) | assumption)
       have q185 : x7_1 < (l0.length : Int) := of_decide_eq_true (by first | (with_reducible assumption) | assumption)
       obtain ⟨ad185, e185, hx185_0, hx185_1⟩ := at_T32 HR0.out x7_1 p185 q185
       have hw185_1 := hx185_1
       have hw185_0 := hx185_0
       obtain rfl : ad184 = ad185 := (by injection e185)
       replace hx185_0 := up_ hx185_0 HB.out
       replace hx185_1 := up_ hx185_1 HB.out
       replace p185 := eq_true p185
       replace q185 := eq_true q185
       refine start_ (n := 19) (S := fun w' => w'.cell? (ad184.add ((x7_1).toNat * 2)) = some (.int .i64 ((rd_T32 l0 x7_1).f0)) ∧ w'.cell? ⟨(ad184.add ((x7_1).toNat * 2)).block, (ad184.add ((x7_1).toNat * 2)).off + 1, none⟩ = some (.int .i64 ((rd_T32 l0 x7_1).f1)) ∧ w'.cell? (ad184.add ((x7_1).toNat * 2)) = some (.int .i64 ((rd_T32 l0 x7_1).f0)) ∧ w'.cell? ⟨(ad184.add ((x7_1).toNat * 2)).block, (ad184.add ((x7_1).toNat * 2)).off + 1, none⟩ = some (.int .i64 ((rd_T32 l0 x7_1).f1))) (ds := []) #[f_,f_,f_,f_,f_,f_,f_,f_,f_,f_,f_,f_,f_,f_,f_,f_,f_,f_,f_] (by kernel_rfl) rfl rfl ⟨((HB.out.cell (World.block_lt_of_cell? w _ hw184_0)).trans hw184_0), ((HB.out.cell (World.block_lt_of_cell? w _ hw184_1)).trans hw184_1), ((HB.out.cell (World.block_lt_of_cell? w _ hw185_0)).trans hw185_0), ((HB.out.cell (World.block_lt_of_cell? w _ hw185_1)).trans hw185_1)⟩ (fun hHeld => ?_); refine with_tabW flyleaflaw13_PlaceApart.tab6 flyleaflaw13_PlaceApart.bits6 (fun HT_ HW_ => ?_)
       generalize wr.drew = w11 at HO_6 BK182 HB hx184_0 hx184_1 hx185_0 hx185_1 hHeld ⊢
       refine pure_ (i := 0) (N := some 28) (v := ?_) (a' := ?_) #[t_,f_,f_,f_,f_,f_,f_,f_,f_,f_,f_,f_,f_,f_,f_,f_,f_,f_,f_] rfl rfl (any_of HT_.out (by kernel_rfl)) (fun _ _ _ h => h) (Or.inl ⟨by rfl, ?_⟩) ?_ ?_; rotate_left; intro w'; go_simp; with_reducible rfl; rotate_left; simp only [Act.put, sA_, sB_, sC_, i64_w, i32_w]; rfl
       refine pure_ (i := 1) (N := some 29) (v := ?_) (a' := ?_) #[t_,t_,f_,f_,f_,f_,f_,f_,f_,f_,f_,f_,f_,f_,f_,f_,f_,f_,f_] rfl rfl (any_of HT_.out (by kernel_rfl)) (fun _ _ _ h => h) (Or.inl ⟨by rfl, ?_⟩) ?_ ?_; rotate_left; intro w'; go_simp; with_reducible rfl; rotate_left; simp only [Act.put, sA_, sB_, sC_, i64_w, i32_w]; rfl
       refine pure_ (i := 2) (N := some 30) (v := ?_) (a' := ?_) #[t_,t_,t_,f_,f_,f_,f_,f_,f_,f_,f_,f_,f_,f_,f_,f_,f_,f_,f_] rfl rfl (any_of HT_.out (by kernel_rfl)) (fun _ _ _ h => h) (Or.inl ⟨by rfl, ?_⟩) ?_ ?_; rotate_left; intro w'; go_simp; with_reducible rfl; rotate_left; simp only [Act.put, sA_, sB_, sC_, i64_w, i32_w]; rfl
       refine pure_ (i := 3) (N := some 31) (v := ?_) (a' := ?_) #[t_,t_,t_,t_,f_,f_,f_,f_,f_,f_,f_,f_,f_,f_,f_,f_,f_,f_,f_] rfl rfl (any_of HT_.out (by kernel_rfl)) (fun _ _ _ h => h) (Or.inl ⟨by rfl, ?_⟩) ?_ ?_; rotate_left; intro w'; go_simp; with_reducible rfl; rotate_left; simp only [Act.put, sA_, sB_, sC_, i64_w, i32_w]; rfl
       refine pure_ (i := 4) (N := some 32) (v := ?_) (a' := ?_) #[t_,t_,t_,t_,t_,f_,f_,f_,f_,f_,f_,f_,f_,f_,f_,f_,f_,f_,f_] rfl rfl (any_of HT_.out (by kernel_rfl)) (fun _ _ _ h => h) (Or.inl ⟨by rfl, ?_⟩) ?_ ?_; rotate_left; intro w'; go_simp; with_reducible rfl; rotate_left; simp only [Act.put, sA_, sB_, sC_, i64_w, i32_w]; rfl
       refine pure_ (i := 8) (N := some 36) (v := ?_) (a' := ?_) #[t_,t_,t_,t_,t_,f_,f_,f_,t_,f_,f_,f_,f_,f_,f_,f_,f_,f_,f_] rfl rfl (any_of HT_.out (by kernel_rfl)) (fun _ _ _ h => h) (Or.inl ⟨by rfl, ?_⟩) ?_ ?_; rotate_left; intro w'; go_simp; with_reducible rfl; rotate_left; simp only [Act.put, sA_, sB_, sC_, i64_w, i32_w]; rfl
       refine pure_ (i := 9) (N := some 37) (v := ?_) (a' := ?_) #[t_,t_,t_,t_,t_,f_,f_,f_,t_,t_,f_,f_,f_,f_,f_,f_,f_,f_,f_] rfl rfl (any_of HT_.out (by kernel_rfl)) (fun _ _ _ h => h) (Or.inl ⟨by rfl, ?_⟩) ?_ ?_; rotate_left; intro w'; go_simp; with_reducible rfl; rotate_left; simp only [Act.put, sA_, sB_, sC_, i64_w, i32_w]; rfl
       refine pure_ (i := 10) (N := some 38) (v := ?_) (a' := ?_) #[t_,t_,t_,t_,t_,f_,f_,f_,t_,t_,t_,f_,f_,f_,f_,f_,f_,f_,f_] rfl rfl (any_of HT_.out (by kernel_rfl)) (fun _ _ _ h => h) (Or.inl ⟨by rfl, ?_⟩) ?_ ?_; rotate_left; intro w'; go_simp; with_reducible rfl; rotate_left; simp only [Act.put, sA_, sB_, sC_, i64_w, i32_w]; rfl
       refine pure_ (i := 11) (N := some 39) (v := ?_) (a' := ?_) #[t_,t_,t_,t_,t_,f_,f_,f_,t_,t_,t_,t_,f_,f_,f_,f_,f_,f_,f_] rfl rfl (any_of HT_.out (by kernel_rfl)) (fun _ _ _ h => h) (Or.inl ⟨by rfl, ?_⟩) ?_ ?_; rotate_left; intro w'; go_simp; with_reducible rfl; rotate_left; simp only [Act.put, sA_, sB_, sC_, i64_w, i32_w]; rfl
       refine take_ (i := 5) (N := some 33) (v := ?_) (a' := ?_) #[t_,t_,t_,t_,t_,t_,f_,f_,t_,t_,t_,t_,f_,f_,f_,f_,f_,f_,f_] rfl rfl (take_ofW HT_.out HW_.out (by kernel_rfl)) (fun _ _ _ h => h) (Or.inl ⟨by rfl, ?_⟩) hHeld ?_ ?_; rotate_left; rintro w' ⟨s0, s1, s2, s3⟩; go_simp; with_reducible rfl; rotate_left; simp only [Act.put, sA_, sB_, sC_, i64_w, i32_w]; rfl
       refine pure_ (i := 6) (N := some 34) (v := ?_) (a' := ?_) #[t_,t_,t_,t_,t_,t_,t_,f_,t_,t_,t_,t_,f_,f_,f_,f_,f_,f_,f_] rfl rfl (any_of HT_.out (by kernel_rfl)) (fun _ _ _ h => h) (Or.inl ⟨by rfl, ?_⟩) ?_ ?_; rotate_left; intro w'; go_simp; with_reducible rfl; rotate_left; simp only [Act.put, sA_, sB_, sC_, i64_w, i32_w]; rfl
       refine pure_ (i := 7) (N := some 35) (v := ?_) (a' := ?_) #[t_,t_,t_,t_,t_,t_,t_,t_,t_,t_,t_,t_,f_,f_,f_,f_,f_,f_,f_] rfl rfl (any_of HT_.out (by kernel_rfl)) (fun _ _ _ h => h) (Or.inl ⟨by rfl, ?_⟩) ?_ ?_; rotate_left; intro w'; go_simp; with_reducible rfl; rotate_left; simp only [Act.put, sA_, sB_, sC_, i64_w, i32_w]; rfl
       refine take_ (i := 12) (N := some 40) (v := ?_) (a' := ?_) #[t_,t_,t_,t_,t_,t_,t_,t_,t_,t_,t_,t_,t_,f_,f_,f_,f_,f_,f_] rfl rfl (take_ofW HT_.out HW_.out (by kernel_rfl)) (fun _ _ _ h => h) (Or.inl ⟨by rfl, ?_⟩) hHeld ?_ ?_; rotate_left; rintro w' ⟨s0, s1, s2, s3⟩; go_simp; with_reducible rfl; rotate_left; simp only [Act.put, sA_, sB_, sC_, i64_w, i32_w]; rfl
       refine pure_ (i := 13) (N := some 41) (v := ?_) (a' := ?_) #[t_,t_,t_,t_,t_,t_,t_,t_,t_,t_,t_,t_,t_,t_,f_,f_,f_,f_,f_] rfl rfl (any_of HT_.out (by kernel_rfl)) (fun _ _ _ h => h) (Or.inl ⟨by rfl, ?_⟩) ?_ ?_; rotate_left; intro w'; go_simp; with_reducible rfl; rotate_left; simp only [Act.put, sA_, sB_, sC_, i64_w, i32_w]; rfl
       refine pure_ (i := 14) (N := some 42) (v := ?_) (a' := ?_) #[t_,t_,t_,t_,t_,t_,t_,t_,t_,t_,t_,t_,t_,t_,t_,f_,f_,f_,f_] rfl rfl (any_of HT_.out (by kernel_rfl)) (fun _ _ _ h => h) (Or.inl ⟨by rfl, ?_⟩) ?_ ?_; rotate_left; intro w'; go_simp; with_reducible rfl; rotate_left; simp only [Act.put, sA_, sB_, sC_, i64_w, i32_w]; rfl
       refine pure_ (i := 15) (N := some 43) (v := ?_) (a' := ?_) #[t_,t_,t_,t_,t_,t_,t_,t_,t_,t_,t_,t_,t_,t_,t_,t_,f_,f_,f_] rfl rfl (any_of HT_.out (by kernel_rfl)) (fun _ _ _ h => h) (Or.inl ⟨by rfl, ?_⟩) ?_ ?_; rotate_left; intro w'; go_simp; with_reducible rfl; rotate_left; simp only [Act.put, sA_, sB_, sC_, i64_w, i32_w]; rfl
       refine one_ (i := 16) (N := some 44) #[t_,t_,t_,t_,t_,t_,t_,t_,t_,t_,t_,t_,t_,t_,t_,t_,t_,f_,f_] rfl rfl (one_of HT_.out (by kernel_rfl)) (by decide) (fun K hK => ?_)
       refine value_ (w1 := ?_) (v := ?_) (by rfl) rfl ?_ ?_
       rotate_left 2
       · go_simp
         constructor
         · rfl
         rfl
       refine hK.out _ _ ⟨(World.cell?_alloc_lt _ _ _ (World.block_lt_of_cell? _ _ (((HB.out.cell (World.block_lt_of_cell? w _ hw184_0)).trans hw184_0)))).trans (((HB.out.cell (World.block_lt_of_cell? w _ hw184_0)).trans hw184_0)), (World.cell?_alloc_lt _ _ _ (World.block_lt_of_cell? _ _ (((HB.out.cell (World.block_lt_of_cell? w _ hw184_1)).trans hw184_1)))).trans (((HB.out.cell (World.block_lt_of_cell? w _ hw184_1)).trans hw184_1)), (World.cell?_alloc_lt _ _ _ (World.block_lt_of_cell? _ _ (((HB.out.cell (World.block_lt_of_cell? w _ hw185_0)).trans hw185_0)))).trans (((HB.out.cell (World.block_lt_of_cell? w _ hw185_0)).trans hw185_0)), (World.cell?_alloc_lt _ _ _ (World.block_lt_of_cell? _ _ (((HB.out.cell (World.block_lt_of_cell? w _ hw185_1)).trans hw185_1)))).trans (((HB.out.cell (World.block_lt_of_cell? w _ hw185_1)).trans hw185_1))⟩ (fun hHeld => ?_)
       clear hK K
       refine norm_ (a' := ?_) ?_ ?_
       rotate_left
       · show Act.put _ (some 44) _ = _
         simp only [Act.put, sA_, sB_, sC_, i64_w, i32_w]
         rfl
       refine one_ (i := 17) (N := some 45) #[t_,t_,t_,t_,t_,t_,t_,t_,t_,t_,t_,t_,t_,t_,t_,t_,t_,t_,f_] rfl rfl (one_of HT_.out (by kernel_rfl)) (by decide) (fun K hK => ?_)
       refine Kd.R_append_step k34 (w0 := w) w.heap.size (by rfl) (.tmp 28) (.tmp 44) 22 34 (.agg #[(.int .i64 0), (.int .i64 0)]) 16 rfl Try.underlying22 info34 rfl (by decide) (by omega) u6 x6_1 (⟨wrap64 (1 + (Go.bits .and .i64 ((rd_T32 l0 x7_1).f0) 511)), wrap64 (64 * (Go.bits .and .i64 ((rd_T32 l0 x7_1).f1) 255))⟩ : S34) [.int .i64 (wrap64 (1 + (Go.bits .and .i64 ((rd_T32 l0 x7_1).f0) 511))), .int .i64 (wrap64 (64 * (Go.bits .and .i64 ((rd_T32 l0 x7_1).f1) 255)))] (fun _ => True) (fun _ => False) rfl rfl ?aP (fun _ hk => hk.elim) ?aF ?aO ?aB ?aS ?aL ?_
       (case aP => exact k34_mkM _ _ _ (⟨wrap64 (1 + (Go.bits .and .i64 ((rd_T32 l0 x7_1).f0) 511)), wrap64 (64 * (Go.bits .and .i64 ((rd_T32 l0 x7_1).f1) 255))⟩ : S34))
       (case aB => exact (by repeat (first | (with_reducible first | exact HB.out | apply below_alloc | apply pw_below_drewN | apply below_drew1 | refine below_set ?_ GE182.out) | exact HB.out)))
       (case aF => exact (fun _ _ => trivial))
       (case aO => exact (by (with_reducible repeat (first | apply Kd.R_alloc | apply Kd.R_drewN | apply Kd.R_drew)); exact HO_6.out))
       (case aS => exact (below_size (by repeat (first | (with_reducible first | exact HB.out | apply below_alloc | apply pw_below_drewN | apply below_drew1 | refine below_set ?_ GE182.out) | exact HB.out))))
       (case aL => have := LMc10.out; omega)
       intro v187 w12 ho hb hg hat
       rw [← Ny186.out] at ho
       have n0_ := Aside0.mk (blk_grown (g := gb182) (o := .cells #[.int .i64 a1_0, .int .i64 a1_1] 32 (0, 0)) (by (with_reducible repeat (first | refine blk_drewN ?_ _ | refine blk_drew ?_ | refine blk_alloc ?_ _)); exact BK182.out) hg (Kd.R_ne HO_6.out BK182.out (by decide)))
       have n1_ := Aside0.mk (hb)
       have n2_ := Aside0.mk (ho)
       clear BK182
       clear HB
       clear HO_6
       have BK182 := n0_
       have HB := n1_
       have HO188 := n2_
       clear n0_ n1_ n2_
       clear ho hb hg hat
       refine hK.out _ _ ⟨((HB.out.cell (World.block_lt_of_cell? w _ hw184_0)).trans hw184_0), ((HB.out.cell (World.block_lt_of_cell? w _ hw184_1)).trans hw184_1), ((HB.out.cell (World.block_lt_of_cell? w _ hw185_0)).trans hw185_0), ((HB.out.cell (World.block_lt_of_cell? w _ hw185_1)).trans hw185_1)⟩ (fun hHeld => ?_)
       clear hK K
       refine norm_ (a' := ?_) ?_ ?_
       rotate_left
       · show Act.put _ (some 45) _ = _
         simp only [Act.put, sA_, sB_, sC_, i64_w, i32_w]
         rfl
       refine pure_ (i := 18) (N := some 6) (v := ?_) (a' := ?_) #[t_,t_,t_,t_,t_,t_,t_,t_,t_,t_,t_,t_,t_,t_,t_,t_,t_,t_,t_] rfl rfl (any_of HT_.out (by kernel_rfl)) (fun _ _ _ h => h) (Or.inl ⟨by rfl, ?_⟩) ?_ ?_; rotate_left; intro w'; go_simp; with_reducible rfl; rotate_left; simp only [Act.put, sA_, sB_, sC_, i64_w, i32_w]; rfl
       refine done_ (done_of HT_.out (by kernel_rfl)) ?_
       try go_wp2
       go_roundg k1
       case measure => have := HK1.out; omega
       case rel => exact ⟨(y186), (wrap64 (x7_1 + 1)), (by first | rfl | (simp; done) | (simp [*]; done)), H', ⟨by have := HK1.out; omega⟩, ⟨by (with_reducible repeat (first | apply Kd.R_alloc | apply Kd.R_drewN | apply Kd.R_drew)); exact HO188.out⟩, ⟨by (with_reducible repeat (first | refine blk_drewN ?_ _ | refine blk_drew ?_ | refine blk_alloc ?_ _)); exact BK182.out⟩, ⟨by repeat (first | (with_reducible first | exact HB.out | apply below_alloc | apply pw_below_drewN | apply below_drew1 | refine below_set ?_ GE182.out) | exact HB.out)⟩⟩
 case rest =>
  as_aux_lemma =>
   clear HC4
   try clear c1
   try clear p1
   try clear q1
   try clear hx1
   try clear p2
   try clear c4
   try clear p6
   try clear c7
   try clear c7b0
   try clear c8
   try clear c8b0
   try clear c9
   try clear c9b0
   try clear c10
   try clear hx184_0
   try clear hx184_1
   try clear hx185_0
   try clear hx185_1
   try clear p184
   try clear p185
   try clear p2
   try clear q184
   try clear q185
   obtain ⟨kq, x6_3, HA, HJ3, HO_6, BK182, HB⟩ := hcut
   cases kq with
   | zero => exact absurd HA.out (by simp [flyleaflaw13_PlaceApart.j1])
   | succ kj3 =>
    have H := HA.out
    clear HA
    simp only [flyleaflaw13_PlaceApart.j1] at H
    replace H := Option.bind_eq_some_iff.mp H
    obtain ⟨⟨t189, t190⟩, A130, H⟩ := H
    replace H : (if t190 = 0 then (if (t189.length : Int) = (x6_3.length : Int) then (flyleaflaw13_PlaceApart.l1 kj3 t183 x6_3 (wrap64 (64 * (Go.bits .and .i64 a1_0 63))) (wrap64 ((wrap64 (64 * (Go.bits .and .i64 a1_0 63))) + (wrap64 (64 * (Go.bits .and .i64 a1_1 127))))) t189 0) else (some false)) else (if t183 = true then (if t190 = 18 then (if (t189.length : Int) = 0 then (some (decide ((x6_3.length : Int) > 0))) else (some false)) else (some false)) else (some false))) = some r := H
    have A13 := Aside0.mk A130
    clear A130
    by_cases c14 : t190 = 0
    rotate_left
    · rw [if_neg c14] at H
      have c14b0 : (t190 == 0) = false := beq_eq_false_iff_ne.mpr c14
      have c14b1 : (t190 != 0) = true := bne_iff_ne.mpr c14
      by_cases c71 : t183 = true
      rotate_left
      · replace c71 := Bool.eq_false_iff.mpr c71
        subst c71
        have H1 : (some false) = some r := by rw [if_neg (show ¬ (false = true) by decide)] at H; exact H
        clear H
        have H := H1
        clear H1
        as_aux_lemma =>
         obtain rfl := Option.some.inj H
         have hcz85_0 : wc.cell? ⟨gb182, 0, none⟩ = some (.int .i64 a1_0) := (blk_cell BK182.out 0).trans rfl
         have hcz85_1 : wc.cell? ⟨gb182, 1, none⟩ = some (.int .i64 a1_1) := (blk_cell BK182.out 1).trans rfl
         have hfz85_0 := blk_frozen BK182.out 0
         have hfz85_1 := blk_frozen BK182.out 1
         obtain ⟨Ao86, co86, eo86⟩ := Kd.R_slice HO_6.out
         subst eo86
         go_wp2_with (first | ((with_reducible refine gate_callee (f := 19) rfl ?_); refine goesL_ (some 60) rfl rfl Try.func19 (by kernel_rfl) rfl #[.slice Ao86 x6_3.length co86, .int .i64 (wrap64 (64 * (Go.bits .and .i64 a1_0 63))), .int .i64 (wrap64 ((wrap64 (64 * (Go.bits .and .i64 a1_0 63))) + (wrap64 (64 * (Go.bits .and .i64 a1_1 127)))))] rfl (by (try simp only [List.map_toArray, List.map_cons, List.map_nil]); first | done | rfl | (simp only [List.length_drop, List.length_take]; rfl)) ?_; (with_reducible refine (place_All.calls kj3 _ _ x6_3 (wrap64 (64 * (Go.bits .and .i64 a1_0 63))) (wrap64 ((wrap64 (64 * (Go.bits .and .i64 a1_0 63))) + (wrap64 (64 * (Go.bits .and .i64 a1_1 127))))) t189 t190 _ ?side1 ?side2 A13.out).mono ?_); (case side1 => repeat (first | exact (Kd.R_reads' HO_6.out).2.2 | (with_reducible refine Kd.C_alloc ?_ _) | (with_reducible refine Kd.C_drewN ?_ _) | (with_reducible refine Kd.C_drew ?_))); (case side2 => exact (Kd.R_reads' HO_6.out).2.1); rintro e w87 ⟨v191, rfl, ho0, hb⟩; refine ⟨_, rfl, ?_⟩; have n0_ := Aside0.mk (Kd.R_below (by (with_reducible repeat (first | apply Kd.R_alloc | apply Kd.R_drewN | apply Kd.R_drew)); exact HO_6.out) hb); have n1_ := Aside0.mk (Kd.R_lower ho0 (below_size (by repeat (first | (with_reducible first | exact HB.out | apply below_alloc | apply pw_below_drewN | apply below_drew1 | refine below_set ?_ GE182.out) | exact HB.out)))); have n2_ := Aside0.mk (blk_below (g := gb182) (o := .cells #[.int .i64 a1_0, .int .i64 a1_1] 32 (0, 0)) (by (with_reducible repeat (first | refine blk_drewN ?_ _ | refine blk_drew ?_ | refine blk_alloc ?_ _)); exact BK182.out) hb); have n3_ := Aside0.mk (below_step (by repeat (first | (with_reducible first | exact HB.out | apply below_alloc | apply pw_below_drewN | apply below_drew1 | refine below_set ?_ GE182.out) | exact HB.out)) hb); clear HO_6; clear BK182; clear HB; have HO_6 := n0_; have HO192 := n1_; have BK182 := n2_; have HB := n3_; clear n0_ n1_ n2_ n3_; (try clear hb); (try clear hb2); (try clear hk); (try clear hi); (try clear ho0)))
         go_ret
         exact ⟨by first | rfl | (simp [errW_none, errW_some] <;> rfl) | (simp [*, errW_none, errW_some] <;> rfl), by repeat (first | (with_reducible first | exact HB.out | apply below_alloc | apply pw_below_drewN | apply below_drew1 | refine below_set ?_ GE182.out) | exact HB.out)⟩
      subst c71
      have H1 : (if t190 = 18 then (if (t189.length : Int) = 0 then (some (decide ((x6_3.length : Int) > 0))) else (some false)) else (some false)) = some r := by rw [if_pos rfl] at H; exact H
      clear H
      have H := H1
      clear H1
      by_cases c72 : t190 = 18
      rotate_left
      · rw [if_neg c72] at H
        have c72b0 : (t190 == 18) = false := beq_eq_false_iff_ne.mpr c72
        have c72b1 : (t190 != 18) = true := bne_iff_ne.mpr c72
        as_aux_lemma =>
         obtain rfl := Option.some.inj H
         have hcz82_0 : wc.cell? ⟨gb182, 0, none⟩ = some (.int .i64 a1_0) := (blk_cell BK182.out 0).trans rfl
         have hcz82_1 : wc.cell? ⟨gb182, 1, none⟩ = some (.int .i64 a1_1) := (blk_cell BK182.out 1).trans rfl
         have hfz82_0 := blk_frozen BK182.out 0
         have hfz82_1 := blk_frozen BK182.out 1
         obtain ⟨Ao83, co83, eo83⟩ := Kd.R_slice HO_6.out
         subst eo83
         go_wp2_with (first | ((with_reducible refine gate_callee (f := 19) rfl ?_); refine goesL_ (some 60) rfl rfl Try.func19 (by kernel_rfl) rfl #[.slice Ao83 x6_3.length co83, .int .i64 (wrap64 (64 * (Go.bits .and .i64 a1_0 63))), .int .i64 (wrap64 ((wrap64 (64 * (Go.bits .and .i64 a1_0 63))) + (wrap64 (64 * (Go.bits .and .i64 a1_1 127)))))] rfl (by (try simp only [List.map_toArray, List.map_cons, List.map_nil]); first | done | rfl | (simp only [List.length_drop, List.length_take]; rfl)) ?_; (with_reducible refine (place_All.calls kj3 _ _ x6_3 (wrap64 (64 * (Go.bits .and .i64 a1_0 63))) (wrap64 ((wrap64 (64 * (Go.bits .and .i64 a1_0 63))) + (wrap64 (64 * (Go.bits .and .i64 a1_1 127))))) t189 t190 _ ?side1 ?side2 A13.out).mono ?_); (case side1 => repeat (first | exact (Kd.R_reads' HO_6.out).2.2 | (with_reducible refine Kd.C_alloc ?_ _) | (with_reducible refine Kd.C_drewN ?_ _) | (with_reducible refine Kd.C_drew ?_))); (case side2 => exact (Kd.R_reads' HO_6.out).2.1); rintro e w84 ⟨v191, rfl, ho0, hb⟩; refine ⟨_, rfl, ?_⟩; have n0_ := Aside0.mk (Kd.R_below (by (with_reducible repeat (first | apply Kd.R_alloc | apply Kd.R_drewN | apply Kd.R_drew)); exact HO_6.out) hb); have n1_ := Aside0.mk (Kd.R_lower ho0 (below_size (by repeat (first | (with_reducible first | exact HB.out | apply below_alloc | apply pw_below_drewN | apply below_drew1 | refine below_set ?_ GE182.out) | exact HB.out)))); have n2_ := Aside0.mk (blk_below (g := gb182) (o := .cells #[.int .i64 a1_0, .int .i64 a1_1] 32 (0, 0)) (by (with_reducible repeat (first | refine blk_drewN ?_ _ | refine blk_drew ?_ | refine blk_alloc ?_ _)); exact BK182.out) hb); have n3_ := Aside0.mk (below_step (by repeat (first | (with_reducible first | exact HB.out | apply below_alloc | apply pw_below_drewN | apply below_drew1 | refine below_set ?_ GE182.out) | exact HB.out)) hb); clear HO_6; clear BK182; clear HB; have HO_6 := n0_; have HO192 := n1_; have BK182 := n2_; have HB := n3_; clear n0_ n1_ n2_ n3_; (try clear hb); (try clear hb2); (try clear hk); (try clear hi); (try clear ho0)))
         go_ret
         exact ⟨by first | rfl | (simp [errW_none, errW_some] <;> rfl) | (simp [*, errW_none, errW_some] <;> rfl), by repeat (first | (with_reducible first | exact HB.out | apply below_alloc | apply pw_below_drewN | apply below_drew1 | refine below_set ?_ GE182.out) | exact HB.out)⟩
      rw [if_pos c72] at H
      have c72b0 : (t190 == 18) = true := beq_iff_eq.mpr c72
      have c72b1 : (t190 != 18) = false := bne_eq_false_iff_eq.mpr c72
      clear c72
      by_cases c73 : (t189.length : Int) = 0
      · rw [if_pos c73] at H
        have c73b0 : ((t189.length : Int) == 0) = true := beq_iff_eq.mpr c73
        have c73b1 : ((t189.length : Int) != 0) = false := bne_eq_false_iff_eq.mpr c73
        clear c73
        as_aux_lemma =>
         obtain rfl := Option.some.inj H
         have hcz74_0 : wc.cell? ⟨gb182, 0, none⟩ = some (.int .i64 a1_0) := (blk_cell BK182.out 0).trans rfl
         have hcz74_1 : wc.cell? ⟨gb182, 1, none⟩ = some (.int .i64 a1_1) := (blk_cell BK182.out 1).trans rfl
         have hfz74_0 := blk_frozen BK182.out 0
         have hfz74_1 := blk_frozen BK182.out 1
         obtain ⟨Ao75, co75, eo75⟩ := Kd.R_slice HO_6.out
         subst eo75
         go_wp2_with (first | ((with_reducible refine gate_callee (f := 19) rfl ?_); refine goesL_ (some 60) rfl rfl Try.func19 (by kernel_rfl) rfl #[.slice Ao75 x6_3.length co75, .int .i64 (wrap64 (64 * (Go.bits .and .i64 a1_0 63))), .int .i64 (wrap64 ((wrap64 (64 * (Go.bits .and .i64 a1_0 63))) + (wrap64 (64 * (Go.bits .and .i64 a1_1 127)))))] rfl (by (try simp only [List.map_toArray, List.map_cons, List.map_nil]); first | done | rfl | (simp only [List.length_drop, List.length_take]; rfl)) ?_; (with_reducible refine (place_All.calls kj3 _ _ x6_3 (wrap64 (64 * (Go.bits .and .i64 a1_0 63))) (wrap64 ((wrap64 (64 * (Go.bits .and .i64 a1_0 63))) + (wrap64 (64 * (Go.bits .and .i64 a1_1 127))))) t189 t190 _ ?side1 ?side2 A13.out).mono ?_); (case side1 => repeat (first | exact (Kd.R_reads' HO_6.out).2.2 | (with_reducible refine Kd.C_alloc ?_ _) | (with_reducible refine Kd.C_drewN ?_ _) | (with_reducible refine Kd.C_drew ?_))); (case side2 => exact (Kd.R_reads' HO_6.out).2.1); rintro e w76 ⟨v191, rfl, ho0, hb⟩; refine ⟨_, rfl, ?_⟩; have n0_ := Aside0.mk (Kd.R_below (by (with_reducible repeat (first | apply Kd.R_alloc | apply Kd.R_drewN | apply Kd.R_drew)); exact HO_6.out) hb); have n1_ := Aside0.mk (Kd.R_lower ho0 (below_size (by repeat (first | (with_reducible first | exact HB.out | apply below_alloc | apply pw_below_drewN | apply below_drew1 | refine below_set ?_ GE182.out) | exact HB.out)))); have n2_ := Aside0.mk (blk_below (g := gb182) (o := .cells #[.int .i64 a1_0, .int .i64 a1_1] 32 (0, 0)) (by (with_reducible repeat (first | refine blk_drewN ?_ _ | refine blk_drew ?_ | refine blk_alloc ?_ _)); exact BK182.out) hb); have n3_ := Aside0.mk (below_step (by repeat (first | (with_reducible first | exact HB.out | apply below_alloc | apply pw_below_drewN | apply below_drew1 | refine below_set ?_ GE182.out) | exact HB.out)) hb); clear HO_6; clear BK182; clear HB; have HO_6 := n0_; have HO192 := n1_; have BK182 := n2_; have HB := n3_; clear n0_ n1_ n2_ n3_; (try clear hb); (try clear hb2); (try clear hk); (try clear hi); (try clear ho0); obtain ⟨Ao77, co77, eo77⟩ := Kd.R_slice HO192.out; subst eo77))
         go_ret
         exact ⟨by first | rfl | (simp [errW_none, errW_some] <;> rfl) | (simp [*, errW_none, errW_some] <;> rfl), by repeat (first | (with_reducible first | exact HB.out | apply below_alloc | apply pw_below_drewN | apply below_drew1 | refine below_set ?_ GE182.out) | exact HB.out)⟩
      rw [if_neg c73] at H
      have c73b0 : ((t189.length : Int) == 0) = false := beq_eq_false_iff_ne.mpr c73
      have c73b1 : ((t189.length : Int) != 0) = true := bne_iff_ne.mpr c73
      have c73b2 : ¬ (t189 = []) := fun h_ => c73 (by rw [h_]; rfl)
      as_aux_lemma =>
       obtain rfl := Option.some.inj H
       have hcz78_0 : wc.cell? ⟨gb182, 0, none⟩ = some (.int .i64 a1_0) := (blk_cell BK182.out 0).trans rfl
       have hcz78_1 : wc.cell? ⟨gb182, 1, none⟩ = some (.int .i64 a1_1) := (blk_cell BK182.out 1).trans rfl
       have hfz78_0 := blk_frozen BK182.out 0
       have hfz78_1 := blk_frozen BK182.out 1
       obtain ⟨Ao79, co79, eo79⟩ := Kd.R_slice HO_6.out
       subst eo79
       go_wp2_with (first | ((with_reducible refine gate_callee (f := 19) rfl ?_); refine goesL_ (some 60) rfl rfl Try.func19 (by kernel_rfl) rfl #[.slice Ao79 x6_3.length co79, .int .i64 (wrap64 (64 * (Go.bits .and .i64 a1_0 63))), .int .i64 (wrap64 ((wrap64 (64 * (Go.bits .and .i64 a1_0 63))) + (wrap64 (64 * (Go.bits .and .i64 a1_1 127)))))] rfl (by (try simp only [List.map_toArray, List.map_cons, List.map_nil]); first | done | rfl | (simp only [List.length_drop, List.length_take]; rfl)) ?_; (with_reducible refine (place_All.calls kj3 _ _ x6_3 (wrap64 (64 * (Go.bits .and .i64 a1_0 63))) (wrap64 ((wrap64 (64 * (Go.bits .and .i64 a1_0 63))) + (wrap64 (64 * (Go.bits .and .i64 a1_1 127))))) t189 t190 _ ?side1 ?side2 A13.out).mono ?_); (case side1 => repeat (first | exact (Kd.R_reads' HO_6.out).2.2 | (with_reducible refine Kd.C_alloc ?_ _) | (with_reducible refine Kd.C_drewN ?_ _) | (with_reducible refine Kd.C_drew ?_))); (case side2 => exact (Kd.R_reads' HO_6.out).2.1); rintro e w80 ⟨v191, rfl, ho0, hb⟩; refine ⟨_, rfl, ?_⟩; have n0_ := Aside0.mk (Kd.R_below (by (with_reducible repeat (first | apply Kd.R_alloc | apply Kd.R_drewN | apply Kd.R_drew)); exact HO_6.out) hb); have n1_ := Aside0.mk (Kd.R_lower ho0 (below_size (by repeat (first | (with_reducible first | exact HB.out | apply below_alloc | apply pw_below_drewN | apply below_drew1 | refine below_set ?_ GE182.out) | exact HB.out)))); have n2_ := Aside0.mk (blk_below (g := gb182) (o := .cells #[.int .i64 a1_0, .int .i64 a1_1] 32 (0, 0)) (by (with_reducible repeat (first | refine blk_drewN ?_ _ | refine blk_drew ?_ | refine blk_alloc ?_ _)); exact BK182.out) hb); have n3_ := Aside0.mk (below_step (by repeat (first | (with_reducible first | exact HB.out | apply below_alloc | apply pw_below_drewN | apply below_drew1 | refine below_set ?_ GE182.out) | exact HB.out)) hb); clear HO_6; clear BK182; clear HB; have HO_6 := n0_; have HO192 := n1_; have BK182 := n2_; have HB := n3_; clear n0_ n1_ n2_ n3_; (try clear hb); (try clear hb2); (try clear hk); (try clear hi); (try clear ho0); obtain ⟨Ao81, co81, eo81⟩ := Kd.R_slice HO192.out; subst eo81))
       go_ret
       exact ⟨by first | rfl | (simp [errW_none, errW_some] <;> rfl) | (simp [*, errW_none, errW_some] <;> rfl), by repeat (first | (with_reducible first | exact HB.out | apply below_alloc | apply pw_below_drewN | apply below_drew1 | refine below_set ?_ GE182.out) | exact HB.out)⟩
    rw [if_pos c14] at H
    have c14b0 : (t190 == 0) = true := beq_iff_eq.mpr c14
    have c14b1 : (t190 != 0) = false := bne_eq_false_iff_eq.mpr c14
    clear c14
    by_cases c15 : (t189.length : Int) = (x6_3.length : Int)
    rotate_left
    · rw [if_neg c15] at H
      have c15b0 : ((t189.length : Int) == (x6_3.length : Int)) = false := beq_eq_false_iff_ne.mpr c15
      have c15b1 : ((t189.length : Int) != (x6_3.length : Int)) = true := bne_iff_ne.mpr c15
      have c15b2 : (t189.length == x6_3.length) = false := by first | simpa using c15 | (simp at c15 ⊢; omega)
      as_aux_lemma =>
       obtain rfl := Option.some.inj H
       have hcz67_0 : wc.cell? ⟨gb182, 0, none⟩ = some (.int .i64 a1_0) := (blk_cell BK182.out 0).trans rfl
       have hcz67_1 : wc.cell? ⟨gb182, 1, none⟩ = some (.int .i64 a1_1) := (blk_cell BK182.out 1).trans rfl
       have hfz67_0 := blk_frozen BK182.out 0
       have hfz67_1 := blk_frozen BK182.out 1
       obtain ⟨Ao68, co68, eo68⟩ := Kd.R_slice HO_6.out
       subst eo68
       go_wp2_with (first | ((with_reducible refine gate_callee (f := 19) rfl ?_); refine goesL_ (some 60) rfl rfl Try.func19 (by kernel_rfl) rfl #[.slice Ao68 x6_3.length co68, .int .i64 (wrap64 (64 * (Go.bits .and .i64 a1_0 63))), .int .i64 (wrap64 ((wrap64 (64 * (Go.bits .and .i64 a1_0 63))) + (wrap64 (64 * (Go.bits .and .i64 a1_1 127)))))] rfl (by (try simp only [List.map_toArray, List.map_cons, List.map_nil]); first | done | rfl | (simp only [List.length_drop, List.length_take]; rfl)) ?_; (with_reducible refine (place_All.calls kj3 _ _ x6_3 (wrap64 (64 * (Go.bits .and .i64 a1_0 63))) (wrap64 ((wrap64 (64 * (Go.bits .and .i64 a1_0 63))) + (wrap64 (64 * (Go.bits .and .i64 a1_1 127))))) t189 t190 _ ?side1 ?side2 A13.out).mono ?_); (case side1 => repeat (first | exact (Kd.R_reads' HO_6.out).2.2 | (with_reducible refine Kd.C_alloc ?_ _) | (with_reducible refine Kd.C_drewN ?_ _) | (with_reducible refine Kd.C_drew ?_))); (case side2 => exact (Kd.R_reads' HO_6.out).2.1); rintro e w69 ⟨v191, rfl, ho0, hb⟩; refine ⟨_, rfl, ?_⟩; have n0_ := Aside0.mk (Kd.R_below (by (with_reducible repeat (first | apply Kd.R_alloc | apply Kd.R_drewN | apply Kd.R_drew)); exact HO_6.out) hb); have n1_ := Aside0.mk (Kd.R_lower ho0 (below_size (by repeat (first | (with_reducible first | exact HB.out | apply below_alloc | apply pw_below_drewN | apply below_drew1 | refine below_set ?_ GE182.out) | exact HB.out)))); have n2_ := Aside0.mk (blk_below (g := gb182) (o := .cells #[.int .i64 a1_0, .int .i64 a1_1] 32 (0, 0)) (by (with_reducible repeat (first | refine blk_drewN ?_ _ | refine blk_drew ?_ | refine blk_alloc ?_ _)); exact BK182.out) hb); have n3_ := Aside0.mk (below_step (by repeat (first | (with_reducible first | exact HB.out | apply below_alloc | apply pw_below_drewN | apply below_drew1 | refine below_set ?_ GE182.out) | exact HB.out)) hb); clear HO_6; clear BK182; clear HB; have HO_6 := n0_; have HO192 := n1_; have BK182 := n2_; have HB := n3_; clear n0_ n1_ n2_ n3_; (try clear hb); (try clear hb2); (try clear hk); (try clear hi); (try clear ho0); obtain ⟨Ao70, co70, eo70⟩ := Kd.R_slice HO192.out; subst eo70))
       go_ret
       exact ⟨by first | rfl | (simp [errW_none, errW_some] <;> rfl) | (simp [*, errW_none, errW_some] <;> rfl), by repeat (first | (with_reducible first | exact HB.out | apply below_alloc | apply pw_below_drewN | apply below_drew1 | refine below_set ?_ GE182.out) | exact HB.out)⟩
    rw [if_pos c15] at H
    have c15b0 : ((t189.length : Int) == (x6_3.length : Int)) = true := beq_iff_eq.mpr c15
    have c15b1 : ((t189.length : Int) != (x6_3.length : Int)) = false := bne_eq_false_iff_eq.mpr c15
    have c15b2 : (t189.length == x6_3.length) = true := by first | simpa using c15 | (simp at c15 ⊢; omega)
    clear c15
    have H' := Aside0.mk H
    clear H
    have hcz16_0 : wc.cell? ⟨gb182, 0, none⟩ = some (.int .i64 a1_0) := (blk_cell BK182.out 0).trans rfl
    have hcz16_1 : wc.cell? ⟨gb182, 1, none⟩ = some (.int .i64 a1_1) := (blk_cell BK182.out 1).trans rfl
    have hfz16_0 := blk_frozen BK182.out 0
    have hfz16_1 := blk_frozen BK182.out 1
    obtain ⟨Ao17, co17, eo17⟩ := Kd.R_slice HO_6.out
    subst eo17
    go_wp2_with (first | ((with_reducible refine gate_callee (f := 19) rfl ?_); refine goesL_ (some 60) rfl rfl Try.func19 (by kernel_rfl) rfl #[.slice Ao17 x6_3.length co17, .int .i64 (wrap64 (64 * (Go.bits .and .i64 a1_0 63))), .int .i64 (wrap64 ((wrap64 (64 * (Go.bits .and .i64 a1_0 63))) + (wrap64 (64 * (Go.bits .and .i64 a1_1 127)))))] rfl (by (try simp only [List.map_toArray, List.map_cons, List.map_nil]); first | done | rfl | (simp only [List.length_drop, List.length_take]; rfl)) ?_; (with_reducible refine (place_All.calls kj3 _ _ x6_3 (wrap64 (64 * (Go.bits .and .i64 a1_0 63))) (wrap64 ((wrap64 (64 * (Go.bits .and .i64 a1_0 63))) + (wrap64 (64 * (Go.bits .and .i64 a1_1 127))))) t189 t190 _ ?side1 ?side2 A13.out).mono ?_); (case side1 => repeat (first | exact (Kd.R_reads' HO_6.out).2.2 | (with_reducible refine Kd.C_alloc ?_ _) | (with_reducible refine Kd.C_drewN ?_ _) | (with_reducible refine Kd.C_drew ?_))); (case side2 => exact (Kd.R_reads' HO_6.out).2.1); rintro e w18 ⟨v191, rfl, ho0, hb⟩; refine ⟨_, rfl, ?_⟩; have n0_ := Aside0.mk (Kd.R_below (by (with_reducible repeat (first | apply Kd.R_alloc | apply Kd.R_drewN | apply Kd.R_drew)); exact HO_6.out) hb); have n1_ := Aside0.mk (Kd.R_lower ho0 (below_size (by repeat (first | (with_reducible first | exact HB.out | apply below_alloc | apply pw_below_drewN | apply below_drew1 | refine below_set ?_ GE182.out) | exact HB.out)))); have n2_ := Aside0.mk (blk_below (g := gb182) (o := .cells #[.int .i64 a1_0, .int .i64 a1_1] 32 (0, 0)) (by (with_reducible repeat (first | refine blk_drewN ?_ _ | refine blk_drew ?_ | refine blk_alloc ?_ _)); exact BK182.out) hb); have n3_ := Aside0.mk (below_step (by repeat (first | (with_reducible first | exact HB.out | apply below_alloc | apply pw_below_drewN | apply below_drew1 | refine below_set ?_ GE182.out) | exact HB.out)) hb); clear HO_6; clear BK182; clear HB; have HO_6 := n0_; have HO192 := n1_; have BK182 := n2_; have HB := n3_; clear n0_ n1_ n2_ n3_; (try clear hb); (try clear hb2); (try clear hk); (try clear hi); (try clear ho0); obtain ⟨Ao19, co19, eo19⟩ := Kd.R_slice HO192.out; subst eo19))
    go_loopg [12] kj3 (fun kq v12 w' => ∃ (x12_2 : Int), v12 = .int .i64 x12_2 ∧ Aside0 (flyleaflaw13_PlaceApart.l1 kq t183 x6_3 (wrap64 (64 * (Go.bits .and .i64 a1_0 63))) (wrap64 ((wrap64 (64 * (Go.bits .and .i64 a1_0 63))) + (wrap64 (64 * (Go.bits .and .i64 a1_1 127))))) t189 x12_2 = some r) ∧ Aside0 (kq ≤ kj3) ∧ Aside0 (Kd.R k34 34 w' w.heap.size (fun _ => True) (.slice Ao17 x6_3.length co17) x6_3) ∧ Aside0 (Kd.R (Kd.int .i64) 3 w' w.heap.size (fun _ => True) (.slice Ao19 t189.length co19) t189) ∧ Aside0 (w'.heap[gb182]? = some (.cells #[.int .i64 a1_0, .int .i64 a1_1] 32 (0, 0))) ∧ Aside0 (Below w.heap.size w w'))
    case atStart => exact ⟨(0), (by first | rfl | (simp; done) | (simp [*]; done)), H', ⟨Nat.le_refl _⟩, ⟨by (with_reducible repeat (first | apply Kd.R_alloc | apply Kd.R_drewN | apply Kd.R_drew)); exact HO_6.out⟩, ⟨by (with_reducible repeat (first | apply Kd.R_alloc | apply Kd.R_drewN | apply Kd.R_drew)); exact HO192.out⟩, ⟨by (with_reducible repeat (first | refine blk_drewN ?_ _ | refine blk_drew ?_ | refine blk_alloc ?_ _)); exact BK182.out⟩, ⟨by repeat (first | (with_reducible first | exact HB.out | apply below_alloc | apply pw_below_drewN | apply below_drew1 | refine below_set ?_ GE182.out) | exact HB.out)⟩⟩
    case round =>
     as_aux_lemma =>
      clear H'
      try clear c1
      try clear p1
      try clear q1
      try clear hx1
      try clear p2
      try clear c4
      try clear p6
      try clear c7
      try clear c7b0
      try clear c8
      try clear c8b0
      try clear c9
      try clear c9b0
      try clear c10
      try clear c14
      try clear c14b0
      try clear c14b1
      try clear c15
      try clear c15b0
      try clear c15b1
      try clear c15b2
      try clear c17
      try clear p18
      try clear q18
      try clear hx18
      try clear c19
      try clear hcz16_0
      try clear hcz16_1
      try clear hfz16_0
      try clear hfz16_1
      try clear hx184_0
      try clear hx184_1
      try clear hx185_0
      try clear hx185_1
      try clear p1
      try clear p184
      try clear p185
      try clear p2
      try clear p6
      try clear q1
      try clear q184
      try clear q185
      obtain ⟨x12_2, rfl, HA, HK2, HO_6, HO_10, BK182, HB⟩ := hrel
      cases gk with
      | zero => exact absurd HA.out (by simp [flyleaflaw13_PlaceApart.l1])
      | succ k2 =>
       have H := HA.out
       clear HA
       simp only [flyleaflaw13_PlaceApart.l1] at H
       by_cases c20 : x12_2 < (t189.length : Int)
       rotate_left
       · rw [if_neg c20] at H
         have c20b0 : decide (x12_2 < (t189.length : Int)) = false := decide_eq_false c20
         clear c20
         as_aux_lemma =>
          obtain rfl := Option.some.inj H
          go_wp2
          go_ret
          exact ⟨by first | rfl | (simp [errW_none, errW_some] <;> rfl) | (simp [*, errW_none, errW_some] <;> rfl), by repeat (first | (with_reducible first | exact HB.out | apply below_alloc | apply pw_below_drewN | apply below_drew1 | refine below_set ?_ GE182.out) | exact HB.out)⟩
       rw [if_pos c20] at H
       have c20b0 : decide (x12_2 < (t189.length : Int)) = true := decide_eq_true c20
       clear c20
       by_cases c21 : 0 ≤ x12_2
       rotate_left
       · rw [if_neg c21] at H
         exact absurd H (by simp)
       rw [if_pos c21] at H
       have c21b0 : decide (0 ≤ x12_2) = true := decide_eq_true c21
       clear c21
       by_cases c22 : x12_2 < (x6_3.length : Int)
       rotate_left
       · rw [if_neg c22] at H
         exact absurd H (by simp)
       rw [if_pos c22] at H
       have c22b0 : decide (x12_2 < (x6_3.length : Int)) = true := decide_eq_true c22
       clear c22
       have HC23 := Aside0.mk H
       clear H
       have p193 : 0 ≤ (x12_2 : Int) := of_decide_eq_true (by first | (with_reducible assumption) | assumption)
       have q193 : x12_2 < (x6_3.length : Int) := of_decide_eq_true (by first | (with_reducible assumption) | assumption)
       obtain ⟨ad193, e193, hx193_0, hx193_1⟩ := at_T34 (Kd.R_reads' HO_6.out).2.2 x12_2 p193 q193
       cases e193
       replace p193 := eq_true p193
       replace q193 := eq_true q193
       go_upto_region 18 with (fail)
       go_cut [122] (fun v122 wc => ∃ (kq : Nat) (x122_22 : Bool), v122 = .bool x122_22 ∧ Aside0 (flyleaflaw13_PlaceApart.j3 kq t183 x6_3 (wrap64 (64 * (Go.bits .and .i64 a1_0 63))) (wrap64 ((wrap64 (64 * (Go.bits .and .i64 a1_0 63))) + (wrap64 (64 * (Go.bits .and .i64 a1_1 127))))) t189 x12_2 (wrap64 ((wrap64 (Int.tdiv (wrap64 (((rd_T34 x6_3 x12_2).f0) + 63)) 64)) * 64)) x122_22 = some r) ∧ Aside0 (kq ≤ k2) ∧ Aside0 (Kd.R k34 34 wc w.heap.size (fun _ => True) (.slice (some ad193) x6_3.length co17) x6_3) ∧ Aside0 (Kd.R (Kd.int .i64) 3 wc w.heap.size (fun _ => True) (.slice Ao19 t189.length co19) t189) ∧ Aside0 (wc.heap[gb182]? = some (.cells #[.int .i64 a1_0, .int .i64 a1_1] 32 (0, 0))) ∧ Aside0 (Below w.heap.size w wc))
       case first =>
        as_aux_lemma =>
         have H := HC23.out
         clear HC23
         by_cases c24 : (Int.tmod (rd t189 x12_2) 64) = 0
         rotate_left
         · rw [if_neg c24] at H
           have c24b0 : ((Int.tmod (rd t189 x12_2) 64) == 0) = false := beq_eq_false_iff_ne.mpr c24
           have c24b1 : ((Int.tmod (rd t189 x12_2) 64) != 0) = true := bne_iff_ne.mpr c24
           (first | rw [c24b0] | (simp only [i64_w, i32_w]; rw [c24b0]) | skip)
           as_aux_lemma =>
            have H' := Aside0.mk H
            clear H
            have p194 : 0 ≤ (x12_2 : Int) := of_decide_eq_true (by first | (with_reducible assumption) | assumption)
            have q194 : x12_2 < (t189.length : Int) := of_decide_eq_true (by first | (with_reducible assumption) | assumption)
            obtain ⟨ad194, e194, hx194_0⟩ := Kd.at_int (Kd.R_reads' HO_10.out).2.2 x12_2 p194 q194
            cases e194
            replace p194 := eq_true p194
            replace q194 := eq_true q194
            go_wp2
            go_meet
            case rel => exact ⟨_, (true), (by first | rfl | (simp; done) | (simp [*]; done)), H', ⟨by have := HJ3.out; have := HK2.out; first | omega | exact Nat.le_refl _⟩, ⟨by (with_reducible repeat (first | apply Kd.R_alloc | apply Kd.R_drewN | apply Kd.R_drew)); exact HO_6.out⟩, ⟨by (with_reducible repeat (first | apply Kd.R_alloc | apply Kd.R_drewN | apply Kd.R_drew)); exact HO_10.out⟩, ⟨by (with_reducible repeat (first | refine blk_drewN ?_ _ | refine blk_drew ?_ | refine blk_alloc ?_ _)); exact BK182.out⟩, ⟨by repeat (first | (with_reducible first | exact HB.out | apply below_alloc | apply pw_below_drewN | apply below_drew1 | refine below_set ?_ GE182.out) | exact HB.out)⟩⟩
         rw [if_pos c24] at H
         have c24b0 : ((Int.tmod (rd t189 x12_2) 64) == 0) = true := beq_iff_eq.mpr c24
         have c24b1 : ((Int.tmod (rd t189 x12_2) 64) != 0) = false := bne_eq_false_iff_eq.mpr c24
         clear c24
         (first | rw [c24b0] | (simp only [i64_w, i32_w]; rw [c24b0]) | skip)
         by_cases c25 : (rd t189 x12_2) < (wrap64 (64 * (Go.bits .and .i64 a1_0 63)))
         · rw [if_pos c25] at H
           have c25b0 : decide ((rd t189 x12_2) < (wrap64 (64 * (Go.bits .and .i64 a1_0 63)))) = true := decide_eq_true c25
           clear c25
           as_aux_lemma =>
            have H' := Aside0.mk H
            clear H
            have p194 : 0 ≤ (x12_2 : Int) := of_decide_eq_true (by first | (with_reducible assumption) | assumption)
            have q194 : x12_2 < (t189.length : Int) := of_decide_eq_true (by first | (with_reducible assumption) | assumption)
            obtain ⟨ad194, e194, hx194_0⟩ := Kd.at_int (Kd.R_reads' HO_10.out).2.2 x12_2 p194 q194
            cases e194
            replace p194 := eq_true p194
            replace q194 := eq_true q194
            have p195 : 0 ≤ (x12_2 : Int) := of_decide_eq_true (by first | (with_reducible assumption) | assumption)
            have q195 : x12_2 < (t189.length : Int) := of_decide_eq_true (by first | (with_reducible assumption) | assumption)
            obtain ⟨ad195, e195, hx195_0⟩ := Kd.at_int (Kd.R_reads' HO_10.out).2.2 x12_2 p195 q195
            obtain rfl : ad194 = ad195 := (by injection e195)
            replace p195 := eq_true p195
            replace q195 := eq_true q195
            go_wp2
            go_meet
            case rel => exact ⟨_, (true), (by first | rfl | (simp; done) | (simp [*]; done)), H', ⟨by have := HJ3.out; have := HK2.out; first | omega | exact Nat.le_refl _⟩, ⟨by (with_reducible repeat (first | apply Kd.R_alloc | apply Kd.R_drewN | apply Kd.R_drew)); exact HO_6.out⟩, ⟨by (with_reducible repeat (first | apply Kd.R_alloc | apply Kd.R_drewN | apply Kd.R_drew)); exact HO_10.out⟩, ⟨by (with_reducible repeat (first | refine blk_drewN ?_ _ | refine blk_drew ?_ | refine blk_alloc ?_ _)); exact BK182.out⟩, ⟨by repeat (first | (with_reducible first | exact HB.out | apply below_alloc | apply pw_below_drewN | apply below_drew1 | refine below_set ?_ GE182.out) | exact HB.out)⟩⟩
         rw [if_neg c25] at H
         have c25b0 : decide ((rd t189 x12_2) < (wrap64 (64 * (Go.bits .and .i64 a1_0 63)))) = false := decide_eq_false c25
         clear c25
         as_aux_lemma =>
          have H' := Aside0.mk H
          clear H
          have p194 : 0 ≤ (x12_2 : Int) := of_decide_eq_true (by first | (with_reducible assumption) | assumption)
          have q194 : x12_2 < (t189.length : Int) := of_decide_eq_true (by first | (with_reducible assumption) | assumption)
          obtain ⟨ad194, e194, hx194_0⟩ := Kd.at_int (Kd.R_reads' HO_10.out).2.2 x12_2 p194 q194
          cases e194
          replace p194 := eq_true p194
          replace q194 := eq_true q194
          have p195 : 0 ≤ (x12_2 : Int) := of_decide_eq_true (by first | (with_reducible assumption) | assumption)
          have q195 : x12_2 < (t189.length : Int) := of_decide_eq_true (by first | (with_reducible assumption) | assumption)
          obtain ⟨ad195, e195, hx195_0⟩ := Kd.at_int (Kd.R_reads' HO_10.out).2.2 x12_2 p195 q195
          obtain rfl : ad194 = ad195 := (by injection e195)
          replace p195 := eq_true p195
          replace q195 := eq_true q195
          have p196 : 0 ≤ (x12_2 : Int) := of_decide_eq_true (by first | (with_reducible assumption) | assumption)
          have q196 : x12_2 < (t189.length : Int) := of_decide_eq_true (by first | (with_reducible assumption) | assumption)
          obtain ⟨ad196, e196, hx196_0⟩ := Kd.at_int (Kd.R_reads' HO_10.out).2.2 x12_2 p196 q196
          obtain rfl : ad194 = ad196 := (by injection e196)
          replace p196 := eq_true p196
          replace q196 := eq_true q196
          go_wp2
          go_meet
          case rel => exact ⟨_, (decide ((wrap64 ((rd t189 x12_2) + (wrap64 ((wrap64 (Int.tdiv (wrap64 (((rd_T34 x6_3 x12_2).f0) + 63)) 64)) * 64)))) > (wrap64 ((wrap64 (64 * (Go.bits .and .i64 a1_0 63))) + (wrap64 (64 * (Go.bits .and .i64 a1_1 127))))))), (by first | rfl | (simp; done) | (simp [*]; done)), H', ⟨by have := HJ3.out; have := HK2.out; first | omega | exact Nat.le_refl _⟩, ⟨by (with_reducible repeat (first | apply Kd.R_alloc | apply Kd.R_drewN | apply Kd.R_drew)); exact HO_6.out⟩, ⟨by (with_reducible repeat (first | apply Kd.R_alloc | apply Kd.R_drewN | apply Kd.R_drew)); exact HO_10.out⟩, ⟨by (with_reducible repeat (first | refine blk_drewN ?_ _ | refine blk_drew ?_ | refine blk_alloc ?_ _)); exact BK182.out⟩, ⟨by repeat (first | (with_reducible first | exact HB.out | apply below_alloc | apply pw_below_drewN | apply below_drew1 | refine below_set ?_ GE182.out) | exact HB.out)⟩⟩
       case rest =>
        as_aux_lemma =>
         clear HC23
         try clear c1
         try clear p1
         try clear q1
         try clear hx1
         try clear c2
         try clear p2
         try clear c4
         try clear p6
         try clear c7
         try clear c7b0
         try clear c8
         try clear c8b0
         try clear c9
         try clear c9b0
         try clear c10
         try clear c14
         try clear c14b0
         try clear c14b1
         try clear c15
         try clear c15b0
         try clear c15b1
         try clear c15b2
         try clear c17
         try clear p18
         try clear q18
         try clear hx18
         try clear c19
         try clear p19
         try clear q19
         try clear hx19
         try clear c20
         try clear c20b0
         try clear c21
         try clear c21b0
         try clear c22
         try clear c22b0
         try clear c24
         try clear c24b0
         try clear c24b1
         try clear c25
         try clear c25b0
         try clear hcz16_0
         try clear hcz16_1
         try clear hfz16_0
         try clear hfz16_1
         try clear hx184_0
         try clear hx184_1
         try clear hx185_0
         try clear hx185_1
         try clear hx193_0
         try clear hx193_1
         try clear hx194_0
         try clear hx195_0
         try clear hx196_0
         try clear p1
         try clear p18
         try clear p184
         try clear p185
         try clear p193
         try clear p194
         try clear p195
         try clear p196
         try clear p2
         try clear p6
         try clear q1
         try clear q18
         try clear q184
         try clear q185
         try clear q193
         try clear q194
         try clear q195
         try clear q196
         obtain ⟨kq, x122_22, rfl, HA, HJ22, HO_6, HO_10, BK182, HB⟩ := hcut
         cases kq with
         | zero => exact absurd HA.out (by simp [flyleaflaw13_PlaceApart.j3])
         | succ kj22 =>
          have H := HA.out
          clear HA
          simp only [flyleaflaw13_PlaceApart.j3] at H
          by_cases c26 : x122_22 = true
          · subst c26
            have H1 : (some false) = some r := by rw [if_pos rfl] at H; exact H
            clear H
            have H := H1
            clear H1
            as_aux_lemma =>
             obtain rfl := Option.some.inj H
             go_wp2
             go_ret
             exact ⟨by first | rfl | (simp [errW_none, errW_some] <;> rfl) | (simp [*, errW_none, errW_some] <;> rfl), by repeat (first | (with_reducible first | exact HB.out | apply below_alloc | apply pw_below_drewN | apply below_drew1 | refine below_set ?_ GE182.out) | exact HB.out)⟩
          replace c26 := Bool.eq_false_iff.mpr c26
          subst c26
          have H1 : (if 0 ≤ x12_2 then (if x12_2 < (x6_3.length : Int) then (if ((rd_T34 x6_3 x12_2).f1) = 0 then (flyleaflaw13_PlaceApart.j4 kj22 t183 x6_3 (wrap64 (64 * (Go.bits .and .i64 a1_0 63))) (wrap64 ((wrap64 (64 * (Go.bits .and .i64 a1_0 63))) + (wrap64 (64 * (Go.bits .and .i64 a1_1 127))))) t189 x12_2 (wrap64 ((wrap64 (Int.tdiv (wrap64 (((rd_T34 x6_3 x12_2).f0) + 63)) 64)) * 64)) false) else (if ((rd_T34 x6_3 x12_2).f1) ≥ (wrap64 (64 * (Go.bits .and .i64 a1_0 63))) then (flyleaflaw13_PlaceApart.j4 kj22 t183 x6_3 (wrap64 (64 * (Go.bits .and .i64 a1_0 63))) (wrap64 ((wrap64 (64 * (Go.bits .and .i64 a1_0 63))) + (wrap64 (64 * (Go.bits .and .i64 a1_1 127))))) t189 x12_2 (wrap64 ((wrap64 (Int.tdiv (wrap64 (((rd_T34 x6_3 x12_2).f0) + 63)) 64)) * 64)) (decide ((wrap64 (((rd_T34 x6_3 x12_2).f1) + (wrap64 ((wrap64 (Int.tdiv (wrap64 (((rd_T34 x6_3 x12_2).f0) + 63)) 64)) * 64)))) ≤ (wrap64 ((wrap64 (64 * (Go.bits .and .i64 a1_0 63))) + (wrap64 (64 * (Go.bits .and .i64 a1_1 127)))))))) else (flyleaflaw13_PlaceApart.j4 kj22 t183 x6_3 (wrap64 (64 * (Go.bits .and .i64 a1_0 63))) (wrap64 ((wrap64 (64 * (Go.bits .and .i64 a1_0 63))) + (wrap64 (64 * (Go.bits .and .i64 a1_1 127))))) t189 x12_2 (wrap64 ((wrap64 (Int.tdiv (wrap64 (((rd_T34 x6_3 x12_2).f0) + 63)) 64)) * 64)) false))) else (none)) else (none)) = some r := by rw [if_neg (show ¬ (false = true) by decide)] at H; exact H
          clear H
          have H := H1
          clear H1
          have HC27 := Aside0.mk H
          clear H
          go_upto_region 20 with (fail)
          go_cut [14] (fun v14 wc => ∃ (kq : Nat) (x14_26 : Bool), v14 = .bool x14_26 ∧ Aside0 (flyleaflaw13_PlaceApart.j4 kq t183 x6_3 (wrap64 (64 * (Go.bits .and .i64 a1_0 63))) (wrap64 ((wrap64 (64 * (Go.bits .and .i64 a1_0 63))) + (wrap64 (64 * (Go.bits .and .i64 a1_1 127))))) t189 x12_2 (wrap64 ((wrap64 (Int.tdiv (wrap64 (((rd_T34 x6_3 x12_2).f0) + 63)) 64)) * 64)) x14_26 = some r) ∧ Aside0 (kq ≤ kj22) ∧ Aside0 (Kd.R k34 34 wc w.heap.size (fun _ => True) (.slice (some ad193) x6_3.length co17) x6_3) ∧ Aside0 (Kd.R (Kd.int .i64) 3 wc w.heap.size (fun _ => True) (.slice Ao19 t189.length co19) t189) ∧ Aside0 (wc.heap[gb182]? = some (.cells #[.int .i64 a1_0, .int .i64 a1_1] 32 (0, 0))) ∧ Aside0 (Below w.heap.size w wc))
          case first =>
           as_aux_lemma =>
            have H := HC27.out
            clear HC27
            by_cases c28 : 0 ≤ x12_2
            rotate_left
            · rw [if_neg c28] at H
              exact absurd H (by simp)
            rw [if_pos c28] at H
            have c28b0 : decide (0 ≤ x12_2) = true := decide_eq_true c28
            clear c28
            (first | rw [c28b0] | (simp only [i64_w, i32_w]; rw [c28b0]) | skip)
            by_cases c29 : x12_2 < (x6_3.length : Int)
            rotate_left
            · rw [if_neg c29] at H
              exact absurd H (by simp)
            rw [if_pos c29] at H
            have c29b0 : decide (x12_2 < (x6_3.length : Int)) = true := decide_eq_true c29
            clear c29
            by_cases c30 : ((rd_T34 x6_3 x12_2).f1) = 0
            · rw [if_pos c30] at H
              have c30b0 : (((rd_T34 x6_3 x12_2).f1) == 0) = true := beq_iff_eq.mpr c30
              have c30b1 : (((rd_T34 x6_3 x12_2).f1) != 0) = false := bne_eq_false_iff_eq.mpr c30
              clear c30
              as_aux_lemma =>
               have H' := Aside0.mk H
               clear H
               have p197 : 0 ≤ (x12_2 : Int) := of_decide_eq_true (by first | (with_reducible assumption) | assumption)
               have q197 : x12_2 < (x6_3.length : Int) := of_decide_eq_true (by first | (with_reducible assumption) | assumption)
               obtain ⟨ad197, e197, hx197_0, hx197_1⟩ := at_T34 (Kd.R_reads' HO_6.out).2.2 x12_2 p197 q197
               obtain rfl : ad193 = ad197 := (by injection e197)
               replace p197 := eq_true p197
               replace q197 := eq_true q197
               go_wp2
               go_meet
               case rel => exact ⟨_, (false), (by first | rfl | (simp; done) | (simp [*]; done)), H', ⟨by have := HJ3.out; have := HK2.out; have := HJ22.out; first | omega | exact Nat.le_refl _⟩, ⟨by (with_reducible repeat (first | apply Kd.R_alloc | apply Kd.R_drewN | apply Kd.R_drew)); exact HO_6.out⟩, ⟨by (with_reducible repeat (first | apply Kd.R_alloc | apply Kd.R_drewN | apply Kd.R_drew)); exact HO_10.out⟩, ⟨by (with_reducible repeat (first | refine blk_drewN ?_ _ | refine blk_drew ?_ | refine blk_alloc ?_ _)); exact BK182.out⟩, ⟨by repeat (first | (with_reducible first | exact HB.out | apply below_alloc | apply pw_below_drewN | apply below_drew1 | refine below_set ?_ GE182.out) | exact HB.out)⟩⟩
            rw [if_neg c30] at H
            have c30b0 : (((rd_T34 x6_3 x12_2).f1) == 0) = false := beq_eq_false_iff_ne.mpr c30
            have c30b1 : (((rd_T34 x6_3 x12_2).f1) != 0) = true := bne_iff_ne.mpr c30
            by_cases c31 : ((rd_T34 x6_3 x12_2).f1) ≥ (wrap64 (64 * (Go.bits .and .i64 a1_0 63)))
            rotate_left
            · rw [if_neg c31] at H
              have c31b0 : decide ((wrap64 (64 * (Go.bits .and .i64 a1_0 63))) ≤ ((rd_T34 x6_3 x12_2).f1)) = false := decide_eq_false c31
              clear c31
              as_aux_lemma =>
               have H' := Aside0.mk H
               clear H
               have p197 : 0 ≤ (x12_2 : Int) := of_decide_eq_true (by first | (with_reducible assumption) | assumption)
               have q197 : x12_2 < (x6_3.length : Int) := of_decide_eq_true (by first | (with_reducible assumption) | assumption)
               obtain ⟨ad197, e197, hx197_0, hx197_1⟩ := at_T34 (Kd.R_reads' HO_6.out).2.2 x12_2 p197 q197
               obtain rfl : ad193 = ad197 := (by injection e197)
               replace p197 := eq_true p197
               replace q197 := eq_true q197
               have p198 : 0 ≤ (x12_2 : Int) := of_decide_eq_true (by first | (with_reducible assumption) | assumption)
               have q198 : x12_2 < (x6_3.length : Int) := of_decide_eq_true (by first | (with_reducible assumption) | assumption)
               obtain ⟨ad198, e198, hx198_0, hx198_1⟩ := at_T34 (Kd.R_reads' HO_6.out).2.2 x12_2 p198 q198
               obtain rfl : ad193 = ad198 := (by injection e198)
               replace p198 := eq_true p198
               replace q198 := eq_true q198
               go_wp2
               go_meet
               case rel => exact ⟨_, (false), (by first | rfl | (simp; done) | (simp [*]; done)), H', ⟨by have := HJ3.out; have := HK2.out; have := HJ22.out; first | omega | exact Nat.le_refl _⟩, ⟨by (with_reducible repeat (first | apply Kd.R_alloc | apply Kd.R_drewN | apply Kd.R_drew)); exact HO_6.out⟩, ⟨by (with_reducible repeat (first | apply Kd.R_alloc | apply Kd.R_drewN | apply Kd.R_drew)); exact HO_10.out⟩, ⟨by (with_reducible repeat (first | refine blk_drewN ?_ _ | refine blk_drew ?_ | refine blk_alloc ?_ _)); exact BK182.out⟩, ⟨by repeat (first | (with_reducible first | exact HB.out | apply below_alloc | apply pw_below_drewN | apply below_drew1 | refine below_set ?_ GE182.out) | exact HB.out)⟩⟩
            rw [if_pos c31] at H
            have c31b0 : decide ((wrap64 (64 * (Go.bits .and .i64 a1_0 63))) ≤ ((rd_T34 x6_3 x12_2).f1)) = true := decide_eq_true c31
            clear c31
            as_aux_lemma =>
             have H' := Aside0.mk H
             clear H
             have p197 : 0 ≤ (x12_2 : Int) := of_decide_eq_true (by first | (with_reducible assumption) | assumption)
             have q197 : x12_2 < (x6_3.length : Int) := of_decide_eq_true (by first | (with_reducible assumption) | assumption)
             obtain ⟨ad197, e197, hx197_0, hx197_1⟩ := at_T34 (Kd.R_reads' HO_6.out).2.2 x12_2 p197 q197
             obtain rfl : ad193 = ad197 := (by injection e197)
             replace p197 := eq_true p197
             replace q197 := eq_true q197
             have p198 : 0 ≤ (x12_2 : Int) := of_decide_eq_true (by first | (with_reducible assumption) | assumption)
             have q198 : x12_2 < (x6_3.length : Int) := of_decide_eq_true (by first | (with_reducible assumption) | assumption)
             obtain ⟨ad198, e198, hx198_0, hx198_1⟩ := at_T34 (Kd.R_reads' HO_6.out).2.2 x12_2 p198 q198
             obtain rfl : ad193 = ad198 := (by injection e198)
             replace p198 := eq_true p198
             replace q198 := eq_true q198
             have p199 : 0 ≤ (x12_2 : Int) := of_decide_eq_true (by first | (with_reducible assumption) | assumption)
             have q199 : x12_2 < (x6_3.length : Int) := of_decide_eq_true (by first | (with_reducible assumption) | assumption)
             obtain ⟨ad199, e199, hx199_0, hx199_1⟩ := at_T34 (Kd.R_reads' HO_6.out).2.2 x12_2 p199 q199
             obtain rfl : ad193 = ad199 := (by injection e199)
             replace p199 := eq_true p199
             replace q199 := eq_true q199
             go_wp2
             go_meet
             case rel => exact ⟨_, (decide ((wrap64 (((rd_T34 x6_3 x12_2).f1) + (wrap64 ((wrap64 (Int.tdiv (wrap64 (((rd_T34 x6_3 x12_2).f0) + 63)) 64)) * 64)))) ≤ (wrap64 ((wrap64 (64 * (Go.bits .and .i64 a1_0 63))) + (wrap64 (64 * (Go.bits .and .i64 a1_1 127))))))), (by first | rfl | (simp; done) | (simp [*]; done)), H', ⟨by have := HJ3.out; have := HK2.out; have := HJ22.out; first | omega | exact Nat.le_refl _⟩, ⟨by (with_reducible repeat (first | apply Kd.R_alloc | apply Kd.R_drewN | apply Kd.R_drew)); exact HO_6.out⟩, ⟨by (with_reducible repeat (first | apply Kd.R_alloc | apply Kd.R_drewN | apply Kd.R_drew)); exact HO_10.out⟩, ⟨by (with_reducible repeat (first | refine blk_drewN ?_ _ | refine blk_drew ?_ | refine blk_alloc ?_ _)); exact BK182.out⟩, ⟨by repeat (first | (with_reducible first | exact HB.out | apply below_alloc | apply pw_below_drewN | apply below_drew1 | refine below_set ?_ GE182.out) | exact HB.out)⟩⟩
          case rest =>
           as_aux_lemma =>
            clear HC27
            try clear c1
            try clear p1
            try clear q1
            try clear hx1
            try clear c2
            try clear p2
            try clear c3
            try clear c4
            try clear p6
            try clear c7
            try clear c7b0
            try clear c8
            try clear c8b0
            try clear c9
            try clear c9b0
            try clear c10
            try clear c14
            try clear c14b0
            try clear c14b1
            try clear c15
            try clear c15b0
            try clear c15b1
            try clear c15b2
            try clear c17
            try clear p18
            try clear q18
            try clear hx18
            try clear c19
            try clear p19
            try clear q19
            try clear hx19
            try clear c20
            try clear c20b0
            try clear c21
            try clear c21b0
            try clear c22
            try clear c22b0
            try clear c24
            try clear c24b0
            try clear c24b1
            try clear c25
            try clear c25b0
            try clear c26
            try clear c28
            try clear c28b0
            try clear c29
            try clear c29b0
            try clear c30
            try clear c30b0
            try clear c30b1
            try clear c31
            try clear c31b0
            try clear hcz16_0
            try clear hcz16_1
            try clear hfz16_0
            try clear hfz16_1
            try clear hx184_0
            try clear hx184_1
            try clear hx185_0
            try clear hx185_1
            try clear hx193_0
            try clear hx193_1
            try clear hx194_0
            try clear hx195_0
            try clear hx196_0
            try clear hx197_0
            try clear hx197_1
            try clear hx198_0
            try clear hx198_1
            try clear hx199_0
            try clear hx199_1
            try clear p1
            try clear p18
            try clear p184
            try clear p185
            try clear p19
            try clear p193
            try clear p194
            try clear p195
            try clear p196
            try clear p197
            try clear p198
            try clear p199
            try clear p2
            try clear p6
            try clear q1
            try clear q18
            try clear q184
            try clear q185
            try clear q19
            try clear q193
            try clear q194
            try clear q195
            try clear q196
            try clear q197
            try clear q198
            try clear q199
            obtain ⟨kq, x14_26, rfl, HA, HJ26, HO_6, HO_10, BK182, HB⟩ := hcut
            cases kq with
            | zero => exact absurd HA.out (by simp [flyleaflaw13_PlaceApart.j4])
            | succ kj26 =>
             have H := HA.out
             clear HA
             simp only [flyleaflaw13_PlaceApart.j4] at H
             have H' := Aside0.mk H
             clear H
             go_wp2
             go_loopg [14, 15] kj26 (fun kq v14 v15 w' => ∃ (x14_5 : Bool) (x15_5 : Int), v14 = .bool x14_5 ∧ v15 = .int .i64 x15_5 ∧ Aside0 (flyleaflaw13_PlaceApart.l2 kq t183 x6_3 (wrap64 (64 * (Go.bits .and .i64 a1_0 63))) (wrap64 ((wrap64 (64 * (Go.bits .and .i64 a1_0 63))) + (wrap64 (64 * (Go.bits .and .i64 a1_1 127))))) t189 x12_2 (wrap64 ((wrap64 (Int.tdiv (wrap64 (((rd_T34 x6_3 x12_2).f0) + 63)) 64)) * 64)) x14_5 x15_5 = some r) ∧ Aside0 (kq ≤ kj26) ∧ Aside0 (Kd.R k34 34 w' w.heap.size (fun _ => True) (.slice (some ad193) x6_3.length co17) x6_3) ∧ Aside0 (Kd.R (Kd.int .i64) 3 w' w.heap.size (fun _ => True) (.slice Ao19 t189.length co19) t189) ∧ Aside0 (w'.heap[gb182]? = some (.cells #[.int .i64 a1_0, .int .i64 a1_1] 32 (0, 0))) ∧ Aside0 (Below w.heap.size w w'))
             case atStart => exact ⟨(x14_26), (0), (by first | rfl | (simp; done) | (simp [*]; done)), (by first | rfl | (simp; done) | (simp [*]; done)), H', ⟨Nat.le_refl _⟩, ⟨by (with_reducible repeat (first | apply Kd.R_alloc | apply Kd.R_drewN | apply Kd.R_drew)); exact HO_6.out⟩, ⟨by (with_reducible repeat (first | apply Kd.R_alloc | apply Kd.R_drewN | apply Kd.R_drew)); exact HO_10.out⟩, ⟨by (with_reducible repeat (first | refine blk_drewN ?_ _ | refine blk_drew ?_ | refine blk_alloc ?_ _)); exact BK182.out⟩, ⟨by repeat (first | (with_reducible first | exact HB.out | apply below_alloc | apply pw_below_drewN | apply below_drew1 | refine below_set ?_ GE182.out) | exact HB.out)⟩⟩
             case round =>
              as_aux_lemma =>
               clear H'
               try clear c1
               try clear p1
               try clear q1
               try clear hx1
               try clear c2
               try clear p2
               try clear c3
               try clear c4
               try clear p6
               try clear c7
               try clear c7b0
               try clear c8
               try clear c8b0
               try clear c9
               try clear c9b0
               try clear c10
               try clear c14
               try clear c14b0
               try clear c14b1
               try clear c15
               try clear c15b0
               try clear c15b1
               try clear c15b2
               try clear c17
               try clear p18
               try clear q18
               try clear hx18
               try clear c19
               try clear p19
               try clear q19
               try clear hx19
               try clear c20
               try clear c20b0
               try clear c21
               try clear c21b0
               try clear c22
               try clear c22b0
               try clear c24
               try clear c24b0
               try clear c24b1
               try clear c25
               try clear c25b0
               try clear c26
               try clear c28
               try clear c28b0
               try clear c29
               try clear c29b0
               try clear c30
               try clear c30b0
               try clear c30b1
               try clear c31
               try clear c31b0
               try clear hcz16_0
               try clear hcz16_1
               try clear hfz16_0
               try clear hfz16_1
               try clear hx184_0
               try clear hx184_1
               try clear hx185_0
               try clear hx185_1
               try clear hx193_0
               try clear hx193_1
               try clear hx194_0
               try clear hx195_0
               try clear hx196_0
               try clear hx197_0
               try clear hx197_1
               try clear hx198_0
               try clear hx198_1
               try clear hx199_0
               try clear hx199_1
               try clear p1
               try clear p18
               try clear p184
               try clear p185
               try clear p19
               try clear p193
               try clear p194
               try clear p195
               try clear p196
               try clear p197
               try clear p198
               try clear p199
               try clear p2
               try clear p6
               try clear q1
               try clear q18
               try clear q184
               try clear q185
               try clear q19
               try clear q193
               try clear q194
               try clear q195
               try clear q196
               try clear q197
               try clear q198
               try clear q199
               obtain ⟨x14_5, x15_5, rfl, rfl, HA, HK5, HO_6, HO_10, BK182, HB⟩ := hrel
               cases gk with
               | zero => exact absurd HA.out (by simp [flyleaflaw13_PlaceApart.l2])
               | succ k5 =>
                have H := HA.out
                clear HA
                simp only [flyleaflaw13_PlaceApart.l2] at H
                by_cases c32 : x15_5 < x12_2
                rotate_left
                · rw [if_neg c32] at H
                  have c32b0 : decide (x15_5 < x12_2) = false := decide_eq_false c32
                  clear c32
                  by_cases c59 : x14_5 = true
                  rotate_left
                  · replace c59 := Bool.eq_false_iff.mpr c59
                    subst c59
                    have H1 : (flyleaflaw13_PlaceApart.l1 k5 t183 x6_3 (wrap64 (64 * (Go.bits .and .i64 a1_0 63))) (wrap64 ((wrap64 (64 * (Go.bits .and .i64 a1_0 63))) + (wrap64 (64 * (Go.bits .and .i64 a1_1 127))))) t189 (wrap64 (x12_2 + 1))) = some r := by rw [if_neg (show ¬ (false = true) by decide)] at H; exact H
                    clear H
                    have H := H1
                    clear H1
                    as_aux_lemma =>
                     have H' := Aside0.mk H
                     clear H
                     try go_wp2
                     have n0_ := Aside0.mk (Kd.R_drew HO_6.out)
                     have n1_ := Aside0.mk (Kd.R_drew HO_10.out)
                     have n2_ := Aside0.mk (blk_drew BK182.out)
                     have n3_ := Aside0.mk (below_drew1 HB.out)
                     clear HO_6
                     clear HO_10
                     clear BK182
                     clear HB
                     have HO_6 := n0_
                     have HO_10 := n1_
                     have BK182 := n2_
                     have HB := n3_
                     clear n0_ n1_ n2_ n3_
                     refine start_ (n := 13) (S := fun w' => True) (ds := []) #[f_,f_,f_,f_,f_,f_,f_,f_,f_,f_,f_,f_,f_] (by kernel_rfl) rfl rfl trivial (fun hHeld => ?_); refine with_tabW flyleaflaw13_PlaceApart.tab28 flyleaflaw13_PlaceApart.bits28 (fun HT_ HW_ => ?_)
                     generalize wr.drew = w66 at HO_6 HO_10 BK182 HB hHeld ⊢
                     refine pure_ (i := 0) (N := some 215) (v := ?_) (a' := ?_) #[t_,f_,f_,f_,f_,f_,f_,f_,f_,f_,f_,f_,f_] rfl rfl (any_of HT_.out (by kernel_rfl)) (fun _ _ _ h => h) (Or.inl ⟨by rfl, ?_⟩) ?_ ?_; rotate_left; intro w'; go_simp; with_reducible rfl; rotate_left; simp only [Act.put, sA_, sB_, sC_, i64_w, i32_w]; rfl
                     refine pure_ (i := 1) (N := some 216) (v := ?_) (a' := ?_) #[t_,t_,f_,f_,f_,f_,f_,f_,f_,f_,f_,f_,f_] rfl rfl (any_of HT_.out (by kernel_rfl)) (fun _ _ _ h => h) (Or.inl ⟨by rfl, ?_⟩) ?_ ?_; rotate_left; intro w'; go_simp; with_reducible rfl; rotate_left; simp only [Act.put, sA_, sB_, sC_, i64_w, i32_w]; rfl
                     refine pure_ (i := 2) (N := some 217) (v := undef) (a' := ?_) #[t_,t_,t_,f_,f_,f_,f_,f_,f_,f_,f_,f_,f_] rfl rfl (any_of HT_.out (by kernel_rfl)) (fun _ _ _ h => h) (Or.inr ⟨by rfl, rfl⟩) ?_ ?_
                     rotate_left
                     · simp only [Act.put, sA_, sB_, sC_, i64_w, i32_w]
                       rfl
                     refine pure_ (i := 3) (N := some 218) (v := undef) (a' := ?_) #[t_,t_,t_,t_,f_,f_,f_,f_,f_,f_,f_,f_,f_] rfl rfl (any_of HT_.out (by kernel_rfl)) (fun _ _ _ h => h) (Or.inr ⟨by rfl, rfl⟩) ?_ ?_
                     rotate_left
                     · simp only [Act.put, sA_, sB_, sC_, i64_w, i32_w]
                       rfl
                     refine pure_ (i := 4) (N := some 219) (v := undef) (a' := ?_) #[t_,t_,t_,t_,t_,f_,f_,f_,f_,f_,f_,f_,f_] rfl rfl (any_of HT_.out (by kernel_rfl)) (fun _ _ _ h => h) (Or.inr ⟨by rfl, rfl⟩) ?_ ?_
                     rotate_left
                     · simp only [Act.put, sA_, sB_, sC_, i64_w, i32_w]
                       rfl
                     refine pure_ (i := 5) (N := some 220) (v := undef) (a' := ?_) #[t_,t_,t_,t_,t_,t_,f_,f_,f_,f_,f_,f_,f_] rfl rfl (any_of HT_.out (by kernel_rfl)) (fun _ _ _ h => h) (Or.inr ⟨by rfl, rfl⟩) ?_ ?_
                     rotate_left
                     · simp only [Act.put, sA_, sB_, sC_, i64_w, i32_w]
                       rfl
                     refine pure_ (i := 6) (N := some 221) (v := undef) (a' := ?_) #[t_,t_,t_,t_,t_,t_,t_,f_,f_,f_,f_,f_,f_] rfl rfl (any_of HT_.out (by kernel_rfl)) (fun _ _ _ h => h) (Or.inr ⟨by rfl, rfl⟩) ?_ ?_
                     rotate_left
                     · simp only [Act.put, sA_, sB_, sC_, i64_w, i32_w]
                       rfl
                     refine pure_ (i := 7) (N := some 222) (v := undef) (a' := ?_) #[t_,t_,t_,t_,t_,t_,t_,t_,f_,f_,f_,f_,f_] rfl rfl (any_of HT_.out (by kernel_rfl)) (fun _ _ _ h => h) (Or.inr ⟨by rfl, rfl⟩) ?_ ?_
                     rotate_left
                     · simp only [Act.put, sA_, sB_, sC_, i64_w, i32_w]
                       rfl
                     refine pure_ (i := 8) (N := some 223) (v := undef) (a' := ?_) #[t_,t_,t_,t_,t_,t_,t_,t_,t_,f_,f_,f_,f_] rfl rfl (any_of HT_.out (by kernel_rfl)) (fun _ _ _ h => h) (Or.inr ⟨by rfl, rfl⟩) ?_ ?_
                     rotate_left
                     · simp only [Act.put, sA_, sB_, sC_, i64_w, i32_w]
                       rfl
                     refine pure_ (i := 9) (N := some 224) (v := undef) (a' := ?_) #[t_,t_,t_,t_,t_,t_,t_,t_,t_,t_,f_,f_,f_] rfl rfl (any_of HT_.out (by kernel_rfl)) (fun _ _ _ h => h) (Or.inr ⟨by rfl, rfl⟩) ?_ ?_
                     rotate_left
                     · simp only [Act.put, sA_, sB_, sC_, i64_w, i32_w]
                       rfl
                     refine pure_ (i := 10) (N := some 225) (v := undef) (a' := ?_) #[t_,t_,t_,t_,t_,t_,t_,t_,t_,t_,t_,f_,f_] rfl rfl (any_of HT_.out (by kernel_rfl)) (fun _ _ _ h => h) (Or.inr ⟨by rfl, rfl⟩) ?_ ?_
                     rotate_left
                     · simp only [Act.put, sA_, sB_, sC_, i64_w, i32_w]
                       rfl
                     refine pure_ (i := 11) (N := some 226) (v := undef) (a' := ?_) #[t_,t_,t_,t_,t_,t_,t_,t_,t_,t_,t_,t_,f_] rfl rfl (any_of HT_.out (by kernel_rfl)) (fun _ _ _ h => h) (Or.inr ⟨by rfl, rfl⟩) ?_ ?_
                     rotate_left
                     · simp only [Act.put, sA_, sB_, sC_, i64_w, i32_w]
                       rfl
                     refine pure_ (i := 12) (N := some 227) (v := ?_) (a' := ?_) #[t_,t_,t_,t_,t_,t_,t_,t_,t_,t_,t_,t_,t_] rfl rfl (any_of HT_.out (by kernel_rfl)) (fun _ _ _ h => h) (Or.inl ⟨by rfl, ?_⟩) ?_ ?_; rotate_left; intro w'; go_simp; with_reducible rfl; rotate_left; simp only [Act.put, sA_, sB_, sC_, i64_w, i32_w]; rfl
                     refine done_ (done_of HT_.out (by kernel_rfl)) ?_
                     try go_wp2
                     go_roundg k5
                     case measure => have := HJ3.out; have := HK2.out; have := HJ22.out; have := HJ26.out; have := HK5.out; omega
                     case rel => exact ⟨(wrap64 (x12_2 + 1)), (by first | rfl | (simp; done) | (simp [*]; done)), H', ⟨by have := HJ3.out; have := HK2.out; have := HJ22.out; have := HJ26.out; have := HK5.out; omega⟩, ⟨by (with_reducible repeat (first | apply Kd.R_alloc | apply Kd.R_drewN | apply Kd.R_drew)); exact HO_6.out⟩, ⟨by (with_reducible repeat (first | apply Kd.R_alloc | apply Kd.R_drewN | apply Kd.R_drew)); exact HO_10.out⟩, ⟨by (with_reducible repeat (first | refine blk_drewN ?_ _ | refine blk_drew ?_ | refine blk_alloc ?_ _)); exact BK182.out⟩, ⟨by repeat (first | (with_reducible first | exact HB.out | apply below_alloc | apply pw_below_drewN | apply below_drew1 | refine below_set ?_ GE182.out) | exact HB.out)⟩⟩
                  subst c59
                  have H1 : (if 0 ≤ x12_2 then (if x12_2 < (t189.length : Int) then (if x12_2 < (x6_3.length : Int) then (if (rd t189 x12_2) = ((rd_T34 x6_3 x12_2).f1) then (flyleaflaw13_PlaceApart.l1 k5 t183 x6_3 (wrap64 (64 * (Go.bits .and .i64 a1_0 63))) (wrap64 ((wrap64 (64 * (Go.bits .and .i64 a1_0 63))) + (wrap64 (64 * (Go.bits .and .i64 a1_1 127))))) t189 (wrap64 (x12_2 + 1))) else (some false)) else (none)) else (none)) else (none)) = some r := by rw [if_pos rfl] at H; exact H
                  clear H
                  have H := H1
                  clear H1
                  by_cases c60 : 0 ≤ x12_2
                  rotate_left
                  · rw [if_neg c60] at H
                    exact absurd H (by simp)
                  rw [if_pos c60] at H
                  have c60b0 : decide (0 ≤ x12_2) = true := decide_eq_true c60
                  clear c60
                  by_cases c61 : x12_2 < (t189.length : Int)
                  rotate_left
                  · rw [if_neg c61] at H
                    exact absurd H (by simp)
                  rw [if_pos c61] at H
                  have c61b0 : decide (x12_2 < (t189.length : Int)) = true := decide_eq_true c61
                  clear c61
                  by_cases c62 : x12_2 < (x6_3.length : Int)
                  rotate_left
                  · rw [if_neg c62] at H
                    exact absurd H (by simp)
                  rw [if_pos c62] at H
                  have c62b0 : decide (x12_2 < (x6_3.length : Int)) = true := decide_eq_true c62
                  clear c62
                  by_cases c63 : (rd t189 x12_2) = ((rd_T34 x6_3 x12_2).f1)
                  rotate_left
                  · rw [if_neg c63] at H
                    have c63b0 : ((rd t189 x12_2) == ((rd_T34 x6_3 x12_2).f1)) = false := beq_eq_false_iff_ne.mpr c63
                    have c63b1 : ((rd t189 x12_2) != ((rd_T34 x6_3 x12_2).f1)) = true := bne_iff_ne.mpr c63
                    as_aux_lemma =>
                     obtain rfl := Option.some.inj H
                     try go_wp2
                     have n0_ := Aside0.mk (Kd.R_drew HO_6.out)
                     have n1_ := Aside0.mk (Kd.R_drew HO_10.out)
                     have n2_ := Aside0.mk (blk_drew BK182.out)
                     have n3_ := Aside0.mk (below_drew1 HB.out)
                     clear HO_6
                     clear HO_10
                     clear BK182
                     clear HB
                     have HO_6 := n0_
                     have HO_10 := n1_
                     have BK182 := n2_
                     have HB := n3_
                     clear n0_ n1_ n2_ n3_
                     have p213 : 0 ≤ (x12_2 : Int) := of_decide_eq_true (by first | (with_reducible assumption) | assumption)
                     have q213 : x12_2 < (t189.length : Int) := of_decide_eq_true (by first | (with_reducible assumption) | assumption)
                     obtain ⟨ad213, e213, hx213_0⟩ := Kd.at_int (Kd.R_reads' HO_10.out).2.2 x12_2 p213 q213
                     cases e213
                     replace p213 := eq_true p213
                     replace q213 := eq_true q213
                     have p214 : 0 ≤ (x12_2 : Int) := of_decide_eq_true (by first | (with_reducible assumption) | assumption)
                     have q214 : x12_2 < (x6_3.length : Int) := of_decide_eq_true (by first | (with_reducible assumption) | assumption)
                     obtain ⟨ad214, e214, hx214_0, hx214_1⟩ := at_T34 (Kd.R_reads' HO_6.out).2.2 x12_2 p214 q214
                     obtain rfl : ad193 = ad214 := (by injection e214)
                     replace p214 := eq_true p214
                     replace q214 := eq_true q214
                     refine start_ (n := 13) (S := fun w' => w'.cell? (ad213.add (x12_2).toNat) = some (.int .i64 (rd t189 x12_2)) ∧ w'.cell? (ad193.add ((x12_2).toNat * 2)) = some (.int .i64 ((rd_T34 x6_3 x12_2).f0)) ∧ w'.cell? ⟨(ad193.add ((x12_2).toNat * 2)).block, (ad193.add ((x12_2).toNat * 2)).off + 1, none⟩ = some (.int .i64 ((rd_T34 x6_3 x12_2).f1))) (ds := []) #[f_,f_,f_,f_,f_,f_,f_,f_,f_,f_,f_,f_,f_] (by kernel_rfl) rfl rfl ⟨hx213_0, hx214_0, hx214_1⟩ (fun hHeld => ?_); refine with_tabW flyleaflaw13_PlaceApart.tab28 flyleaflaw13_PlaceApart.bits28 (fun HT_ HW_ => ?_)
                     generalize wr.drew = w65 at HO_6 HO_10 BK182 HB hx213_0 hx214_0 hx214_1 hHeld ⊢
                     refine pure_ (i := 0) (N := some 215) (v := ?_) (a' := ?_) #[t_,f_,f_,f_,f_,f_,f_,f_,f_,f_,f_,f_,f_] rfl rfl (any_of HT_.out (by kernel_rfl)) (fun _ _ _ h => h) (Or.inl ⟨by rfl, ?_⟩) ?_ ?_; rotate_left; intro w'; go_simp; with_reducible rfl; rotate_left; simp only [Act.put, sA_, sB_, sC_, i64_w, i32_w]; rfl
                     refine pure_ (i := 1) (N := some 216) (v := ?_) (a' := ?_) #[t_,t_,f_,f_,f_,f_,f_,f_,f_,f_,f_,f_,f_] rfl rfl (any_of HT_.out (by kernel_rfl)) (fun _ _ _ h => h) (Or.inl ⟨by rfl, ?_⟩) ?_ ?_; rotate_left; intro w'; go_simp; with_reducible rfl; rotate_left; simp only [Act.put, sA_, sB_, sC_, i64_w, i32_w]; rfl
                     refine pure_ (i := 2) (N := some 217) (v := ?_) (a' := ?_) #[t_,t_,t_,f_,f_,f_,f_,f_,f_,f_,f_,f_,f_] rfl rfl (any_of HT_.out (by kernel_rfl)) (fun _ _ _ h => h) (Or.inl ⟨by rfl, ?_⟩) ?_ ?_; rotate_left; intro w'; go_simp; with_reducible rfl; rotate_left; simp only [Act.put, sA_, sB_, sC_, i64_w, i32_w]; rfl
                     refine pure_ (i := 3) (N := some 218) (v := ?_) (a' := ?_) #[t_,t_,t_,t_,f_,f_,f_,f_,f_,f_,f_,f_,f_] rfl rfl (any_of HT_.out (by kernel_rfl)) (fun _ _ _ h => h) (Or.inl ⟨by rfl, ?_⟩) ?_ ?_; rotate_left; intro w'; go_simp; with_reducible rfl; rotate_left; simp only [Act.put, sA_, sB_, sC_, i64_w, i32_w]; rfl
                     refine pure_ (i := 4) (N := some 219) (v := ?_) (a' := ?_) #[t_,t_,t_,t_,t_,f_,f_,f_,f_,f_,f_,f_,f_] rfl rfl (any_of HT_.out (by kernel_rfl)) (fun _ _ _ h => h) (Or.inl ⟨by rfl, ?_⟩) ?_ ?_; rotate_left; intro w'; go_simp; with_reducible rfl; rotate_left; simp only [Act.put, sA_, sB_, sC_, i64_w, i32_w]; rfl
                     refine pure_ (i := 6) (N := some 221) (v := ?_) (a' := ?_) #[t_,t_,t_,t_,t_,f_,t_,f_,f_,f_,f_,f_,f_] rfl rfl (any_of HT_.out (by kernel_rfl)) (fun _ _ _ h => h) (Or.inl ⟨by rfl, ?_⟩) ?_ ?_; rotate_left; intro w'; go_simp; with_reducible rfl; rotate_left; simp only [Act.put, sA_, sB_, sC_, i64_w, i32_w]; rfl
                     refine pure_ (i := 7) (N := some 222) (v := ?_) (a' := ?_) #[t_,t_,t_,t_,t_,f_,t_,t_,f_,f_,f_,f_,f_] rfl rfl (any_of HT_.out (by kernel_rfl)) (fun _ _ _ h => h) (Or.inl ⟨by rfl, ?_⟩) ?_ ?_; rotate_left; intro w'; go_simp; with_reducible rfl; rotate_left; simp only [Act.put, sA_, sB_, sC_, i64_w, i32_w]; rfl
                     refine pure_ (i := 8) (N := some 223) (v := ?_) (a' := ?_) #[t_,t_,t_,t_,t_,f_,t_,t_,t_,f_,f_,f_,f_] rfl rfl (any_of HT_.out (by kernel_rfl)) (fun _ _ _ h => h) (Or.inl ⟨by rfl, ?_⟩) ?_ ?_; rotate_left; intro w'; go_simp; with_reducible rfl; rotate_left; simp only [Act.put, sA_, sB_, sC_, i64_w, i32_w]; rfl
                     refine pure_ (i := 9) (N := some 224) (v := ?_) (a' := ?_) #[t_,t_,t_,t_,t_,f_,t_,t_,t_,t_,f_,f_,f_] rfl rfl (any_of HT_.out (by kernel_rfl)) (fun _ _ _ h => h) (Or.inl ⟨by rfl, ?_⟩) ?_ ?_; rotate_left; intro w'; go_simp; with_reducible rfl; rotate_left; simp only [Act.put, sA_, sB_, sC_, i64_w, i32_w]; rfl
                     refine take_ (i := 5) (N := some 220) (v := ?_) (a' := ?_) #[t_,t_,t_,t_,t_,t_,t_,t_,t_,t_,f_,f_,f_] rfl rfl (take_ofW HT_.out HW_.out (by kernel_rfl)) (fun _ _ _ h => h) (Or.inl ⟨by rfl, ?_⟩) hHeld ?_ ?_; rotate_left; rintro w' ⟨s0, s1, s2⟩; go_simp; with_reducible rfl; rotate_left; simp only [Act.put, sA_, sB_, sC_, i64_w, i32_w]; rfl
                     refine take_ (i := 10) (N := some 225) (v := ?_) (a' := ?_) #[t_,t_,t_,t_,t_,t_,t_,t_,t_,t_,t_,f_,f_] rfl rfl (take_ofW HT_.out HW_.out (by kernel_rfl)) (fun _ _ _ h => h) (Or.inl ⟨by rfl, ?_⟩) hHeld ?_ ?_; rotate_left; rintro w' ⟨s0, s1, s2⟩; go_simp; with_reducible rfl; rotate_left; simp only [Act.put, sA_, sB_, sC_, i64_w, i32_w]; rfl
                     refine pure_ (i := 11) (N := some 226) (v := ?_) (a' := ?_) #[t_,t_,t_,t_,t_,t_,t_,t_,t_,t_,t_,t_,f_] rfl rfl (any_of HT_.out (by kernel_rfl)) (fun _ _ _ h => h) (Or.inl ⟨by rfl, ?_⟩) ?_ ?_; rotate_left; intro w'; go_simp; with_reducible rfl; rotate_left; simp only [Act.put, sA_, sB_, sC_, i64_w, i32_w]; rfl
                     refine pure_ (i := 12) (N := some 227) (v := ?_) (a' := ?_) #[t_,t_,t_,t_,t_,t_,t_,t_,t_,t_,t_,t_,t_] rfl rfl (any_of HT_.out (by kernel_rfl)) (fun _ _ _ h => h) (Or.inl ⟨by rfl, ?_⟩) ?_ ?_; rotate_left; intro w'; go_simp; with_reducible rfl; rotate_left; simp only [Act.put, sA_, sB_, sC_, i64_w, i32_w]; rfl
                     refine done_ (done_of HT_.out (by kernel_rfl)) ?_
                     try go_wp2
                     go_ret
                     exact ⟨by first | rfl | (simp [errW_none, errW_some] <;> rfl) | (simp [*, errW_none, errW_some] <;> rfl), by repeat (first | (with_reducible first | exact HB.out | apply below_alloc | apply pw_below_drewN | apply below_drew1 | refine below_set ?_ GE182.out) | exact HB.out)⟩
                  rw [if_pos c63] at H
                  have c63b0 : ((rd t189 x12_2) == ((rd_T34 x6_3 x12_2).f1)) = true := beq_iff_eq.mpr c63
                  have c63b1 : ((rd t189 x12_2) != ((rd_T34 x6_3 x12_2).f1)) = false := bne_eq_false_iff_eq.mpr c63
                  clear c63
                  as_aux_lemma =>
                   have H' := Aside0.mk H
                   clear H
                   try go_wp2
                   have n0_ := Aside0.mk (Kd.R_drew HO_6.out)
                   have n1_ := Aside0.mk (Kd.R_drew HO_10.out)
                   have n2_ := Aside0.mk (blk_drew BK182.out)
                   have n3_ := Aside0.mk (below_drew1 HB.out)
                   clear HO_6
                   clear HO_10
                   clear BK182
                   clear HB
                   have HO_6 := n0_
                   have HO_10 := n1_
                   have BK182 := n2_
                   have HB := n3_
                   clear n0_ n1_ n2_ n3_
                   have p213 : 0 ≤ (x12_2 : Int) := of_decide_eq_true (by first | (with_reducible assumption) | assumption)
                   have q213 : x12_2 < (t189.length : Int) := of_decide_eq_true (by first | (with_reducible assumption) | assumption)
                   obtain ⟨ad213, e213, hx213_0⟩ := Kd.at_int (Kd.R_reads' HO_10.out).2.2 x12_2 p213 q213
                   cases e213
                   replace p213 := eq_true p213
                   replace q213 := eq_true q213
                   have p214 : 0 ≤ (x12_2 : Int) := of_decide_eq_true (by first | (with_reducible assumption) | assumption)
                   have q214 : x12_2 < (x6_3.length : Int) := of_decide_eq_true (by first | (with_reducible assumption) | assumption)
                   obtain ⟨ad214, e214, hx214_0, hx214_1⟩ := at_T34 (Kd.R_reads' HO_6.out).2.2 x12_2 p214 q214
                   obtain rfl : ad193 = ad214 := (by injection e214)
                   replace p214 := eq_true p214
                   replace q214 := eq_true q214
                   refine start_ (n := 13) (S := fun w' => w'.cell? (ad213.add (x12_2).toNat) = some (.int .i64 (rd t189 x12_2)) ∧ w'.cell? (ad193.add ((x12_2).toNat * 2)) = some (.int .i64 ((rd_T34 x6_3 x12_2).f0)) ∧ w'.cell? ⟨(ad193.add ((x12_2).toNat * 2)).block, (ad193.add ((x12_2).toNat * 2)).off + 1, none⟩ = some (.int .i64 ((rd_T34 x6_3 x12_2).f1))) (ds := []) #[f_,f_,f_,f_,f_,f_,f_,f_,f_,f_,f_,f_,f_] (by kernel_rfl) rfl rfl ⟨hx213_0, hx214_0, hx214_1⟩ (fun hHeld => ?_); refine with_tabW flyleaflaw13_PlaceApart.tab28 flyleaflaw13_PlaceApart.bits28 (fun HT_ HW_ => ?_)
                   generalize wr.drew = w64 at HO_6 HO_10 BK182 HB hx213_0 hx214_0 hx214_1 hHeld ⊢
                   refine pure_ (i := 0) (N := some 215) (v := ?_) (a' := ?_) #[t_,f_,f_,f_,f_,f_,f_,f_,f_,f_,f_,f_,f_] rfl rfl (any_of HT_.out (by kernel_rfl)) (fun _ _ _ h => h) (Or.inl ⟨by rfl, ?_⟩) ?_ ?_; rotate_left; intro w'; go_simp; with_reducible rfl; rotate_left; simp only [Act.put, sA_, sB_, sC_, i64_w, i32_w]; rfl
                   refine pure_ (i := 1) (N := some 216) (v := ?_) (a' := ?_) #[t_,t_,f_,f_,f_,f_,f_,f_,f_,f_,f_,f_,f_] rfl rfl (any_of HT_.out (by kernel_rfl)) (fun _ _ _ h => h) (Or.inl ⟨by rfl, ?_⟩) ?_ ?_; rotate_left; intro w'; go_simp; with_reducible rfl; rotate_left; simp only [Act.put, sA_, sB_, sC_, i64_w, i32_w]; rfl
                   refine pure_ (i := 2) (N := some 217) (v := ?_) (a' := ?_) #[t_,t_,t_,f_,f_,f_,f_,f_,f_,f_,f_,f_,f_] rfl rfl (any_of HT_.out (by kernel_rfl)) (fun _ _ _ h => h) (Or.inl ⟨by rfl, ?_⟩) ?_ ?_; rotate_left; intro w'; go_simp; with_reducible rfl; rotate_left; simp only [Act.put, sA_, sB_, sC_, i64_w, i32_w]; rfl
                   refine pure_ (i := 3) (N := some 218) (v := ?_) (a' := ?_) #[t_,t_,t_,t_,f_,f_,f_,f_,f_,f_,f_,f_,f_] rfl rfl (any_of HT_.out (by kernel_rfl)) (fun _ _ _ h => h) (Or.inl ⟨by rfl, ?_⟩) ?_ ?_; rotate_left; intro w'; go_simp; with_reducible rfl; rotate_left; simp only [Act.put, sA_, sB_, sC_, i64_w, i32_w]; rfl
                   refine pure_ (i := 4) (N := some 219) (v := ?_) (a' := ?_) #[t_,t_,t_,t_,t_,f_,f_,f_,f_,f_,f_,f_,f_] rfl rfl (any_of HT_.out (by kernel_rfl)) (fun _ _ _ h => h) (Or.inl ⟨by rfl, ?_⟩) ?_ ?_; rotate_left; intro w'; go_simp; with_reducible rfl; rotate_left; simp only [Act.put, sA_, sB_, sC_, i64_w, i32_w]; rfl
                   refine pure_ (i := 6) (N := some 221) (v := ?_) (a' := ?_) #[t_,t_,t_,t_,t_,f_,t_,f_,f_,f_,f_,f_,f_] rfl rfl (any_of HT_.out (by kernel_rfl)) (fun _ _ _ h => h) (Or.inl ⟨by rfl, ?_⟩) ?_ ?_; rotate_left; intro w'; go_simp; with_reducible rfl; rotate_left; simp only [Act.put, sA_, sB_, sC_, i64_w, i32_w]; rfl
                   refine pure_ (i := 7) (N := some 222) (v := ?_) (a' := ?_) #[t_,t_,t_,t_,t_,f_,t_,t_,f_,f_,f_,f_,f_] rfl rfl (any_of HT_.out (by kernel_rfl)) (fun _ _ _ h => h) (Or.inl ⟨by rfl, ?_⟩) ?_ ?_; rotate_left; intro w'; go_simp; with_reducible rfl; rotate_left; simp only [Act.put, sA_, sB_, sC_, i64_w, i32_w]; rfl
                   refine pure_ (i := 8) (N := some 223) (v := ?_) (a' := ?_) #[t_,t_,t_,t_,t_,f_,t_,t_,t_,f_,f_,f_,f_] rfl rfl (any_of HT_.out (by kernel_rfl)) (fun _ _ _ h => h) (Or.inl ⟨by rfl, ?_⟩) ?_ ?_; rotate_left; intro w'; go_simp; with_reducible rfl; rotate_left; simp only [Act.put, sA_, sB_, sC_, i64_w, i32_w]; rfl
                   refine pure_ (i := 9) (N := some 224) (v := ?_) (a' := ?_) #[t_,t_,t_,t_,t_,f_,t_,t_,t_,t_,f_,f_,f_] rfl rfl (any_of HT_.out (by kernel_rfl)) (fun _ _ _ h => h) (Or.inl ⟨by rfl, ?_⟩) ?_ ?_; rotate_left; intro w'; go_simp; with_reducible rfl; rotate_left; simp only [Act.put, sA_, sB_, sC_, i64_w, i32_w]; rfl
                   refine take_ (i := 5) (N := some 220) (v := ?_) (a' := ?_) #[t_,t_,t_,t_,t_,t_,t_,t_,t_,t_,f_,f_,f_] rfl rfl (take_ofW HT_.out HW_.out (by kernel_rfl)) (fun _ _ _ h => h) (Or.inl ⟨by rfl, ?_⟩) hHeld ?_ ?_; rotate_left; rintro w' ⟨s0, s1, s2⟩; go_simp; with_reducible rfl; rotate_left; simp only [Act.put, sA_, sB_, sC_, i64_w, i32_w]; rfl
                   refine take_ (i := 10) (N := some 225) (v := ?_) (a' := ?_) #[t_,t_,t_,t_,t_,t_,t_,t_,t_,t_,t_,f_,f_] rfl rfl (take_ofW HT_.out HW_.out (by kernel_rfl)) (fun _ _ _ h => h) (Or.inl ⟨by rfl, ?_⟩) hHeld ?_ ?_; rotate_left; rintro w' ⟨s0, s1, s2⟩; go_simp; with_reducible rfl; rotate_left; simp only [Act.put, sA_, sB_, sC_, i64_w, i32_w]; rfl
                   refine pure_ (i := 11) (N := some 226) (v := ?_) (a' := ?_) #[t_,t_,t_,t_,t_,t_,t_,t_,t_,t_,t_,t_,f_] rfl rfl (any_of HT_.out (by kernel_rfl)) (fun _ _ _ h => h) (Or.inl ⟨by rfl, ?_⟩) ?_ ?_; rotate_left; intro w'; go_simp; with_reducible rfl; rotate_left; simp only [Act.put, sA_, sB_, sC_, i64_w, i32_w]; rfl
                   refine pure_ (i := 12) (N := some 227) (v := ?_) (a' := ?_) #[t_,t_,t_,t_,t_,t_,t_,t_,t_,t_,t_,t_,t_] rfl rfl (any_of HT_.out (by kernel_rfl)) (fun _ _ _ h => h) (Or.inl ⟨by rfl, ?_⟩) ?_ ?_; rotate_left; intro w'; go_simp; with_reducible rfl; rotate_left; simp only [Act.put, sA_, sB_, sC_, i64_w, i32_w]; rfl
                   refine done_ (done_of HT_.out (by kernel_rfl)) ?_
                   try go_wp2
                   go_roundg k5
                   case measure => have := HJ3.out; have := HK2.out; have := HJ22.out; have := HJ26.out; have := HK5.out; omega
                   case rel => exact ⟨(wrap64 (x12_2 + 1)), (by first | rfl | (simp; done) | (simp [*]; done)), H', ⟨by have := HJ3.out; have := HK2.out; have := HJ22.out; have := HJ26.out; have := HK5.out; omega⟩, ⟨by (with_reducible repeat (first | apply Kd.R_alloc | apply Kd.R_drewN | apply Kd.R_drew)); exact HO_6.out⟩, ⟨by (with_reducible repeat (first | apply Kd.R_alloc | apply Kd.R_drewN | apply Kd.R_drew)); exact HO_10.out⟩, ⟨by (with_reducible repeat (first | refine blk_drewN ?_ _ | refine blk_drew ?_ | refine blk_alloc ?_ _)); exact BK182.out⟩, ⟨by repeat (first | (with_reducible first | exact HB.out | apply below_alloc | apply pw_below_drewN | apply below_drew1 | refine below_set ?_ GE182.out) | exact HB.out)⟩⟩
                rw [if_pos c32] at H
                have c32b0 : decide (x15_5 < x12_2) = true := decide_eq_true c32
                clear c32
                by_cases c33 : 0 ≤ x15_5
                rotate_left
                · rw [if_neg c33] at H
                  exact absurd H (by simp)
                rw [if_pos c33] at H
                have c33b0 : decide (0 ≤ x15_5) = true := decide_eq_true c33
                clear c33
                by_cases c34 : x15_5 < (x6_3.length : Int)
                rotate_left
                · rw [if_neg c34] at H
                  exact absurd H (by simp)
                rw [if_pos c34] at H
                have c34b0 : decide (x15_5 < (x6_3.length : Int)) = true := decide_eq_true c34
                clear c34
                by_cases c35 : 0 ≤ x12_2
                rotate_left
                · rw [if_neg c35] at H
                  exact absurd H (by simp)
                rw [if_pos c35] at H
                have c35b0 : decide (0 ≤ x12_2) = true := decide_eq_true c35
                clear c35
                by_cases c36 : x12_2 < (t189.length : Int)
                rotate_left
                · rw [if_neg c36] at H
                  exact absurd H (by simp)
                rw [if_pos c36] at H
                have c36b0 : decide (x12_2 < (t189.length : Int)) = true := decide_eq_true c36
                clear c36
                by_cases c37 : x15_5 < (t189.length : Int)
                rotate_left
                · rw [if_neg c37] at H
                  exact absurd H (by simp)
                rw [if_pos c37] at H
                have c37b0 : decide (x15_5 < (t189.length : Int)) = true := decide_eq_true c37
                clear c37
                by_cases c38 : (rd t189 x12_2) < (wrap64 ((rd t189 x15_5) + (wrap64 ((wrap64 (Int.tdiv (wrap64 (((rd_T34 x6_3 x15_5).f0) + 63)) 64)) * 64))))
                rotate_left
                · rw [if_neg c38] at H
                  have c38b0 : decide ((rd t189 x12_2) < (wrap64 ((rd t189 x15_5) + (wrap64 ((wrap64 (Int.tdiv (wrap64 (((rd_T34 x6_3 x15_5).f0) + 63)) 64)) * 64))))) = false := decide_eq_false c38
                  clear c38
                  by_cases c50 : x14_5 = true
                  rotate_left
                  · replace c50 := Bool.eq_false_iff.mpr c50
                    subst c50
                    have H1 : (flyleaflaw13_PlaceApart.l2 k5 t183 x6_3 (wrap64 (64 * (Go.bits .and .i64 a1_0 63))) (wrap64 ((wrap64 (64 * (Go.bits .and .i64 a1_0 63))) + (wrap64 (64 * (Go.bits .and .i64 a1_1 127))))) t189 x12_2 (wrap64 ((wrap64 (Int.tdiv (wrap64 (((rd_T34 x6_3 x12_2).f0) + 63)) 64)) * 64)) false (wrap64 (x15_5 + 1))) = some r := by rw [if_neg (show ¬ (false = true) by decide)] at H; exact H
                    clear H
                    have H := H1
                    clear H1
                    as_aux_lemma =>
                     have H' := Aside0.mk H
                     clear H
                     have p200 : 0 ≤ (x15_5 : Int) := of_decide_eq_true (by first | (with_reducible assumption) | assumption)
                     have q200 : x15_5 < (x6_3.length : Int) := of_decide_eq_true (by first | (with_reducible assumption) | assumption)
                     obtain ⟨ad200, e200, hx200_0, hx200_1⟩ := at_T34 (Kd.R_reads' HO_6.out).2.2 x15_5 p200 q200
                     obtain rfl : ad193 = ad200 := (by injection e200)
                     replace p200 := eq_true p200
                     replace q200 := eq_true q200
                     try go_wp2
                     have n0_ := Aside0.mk (Kd.R_drew HO_6.out)
                     have n1_ := Aside0.mk (Kd.R_drew HO_10.out)
                     have n2_ := Aside0.mk (blk_drew BK182.out)
                     have n3_ := Aside0.mk (below_drew1 HB.out)
                     clear HO_6
                     clear HO_10
                     clear BK182
                     clear HB
                     have HO_6 := n0_
                     have HO_10 := n1_
                     have BK182 := n2_
                     have HB := n3_
                     clear n0_ n1_ n2_ n3_
                     have p201 : 0 ≤ (x12_2 : Int) := of_decide_eq_true (by first | (with_reducible assumption) | assumption)
                     have q201 : x12_2 < (t189.length : Int) := of_decide_eq_true (by first | (with_reducible assumption) | assumption)
                     obtain ⟨ad201, e201, hx201_0⟩ := Kd.at_int (Kd.R_reads' HO_10.out).2.2 x12_2 p201 q201
                     cases e201
                     replace p201 := eq_true p201
                     replace q201 := eq_true q201
                     have p202 : 0 ≤ (x15_5 : Int) := of_decide_eq_true (by first | (with_reducible assumption) | assumption)
                     have q202 : x15_5 < (t189.length : Int) := of_decide_eq_true (by first | (with_reducible assumption) | assumption)
                     obtain ⟨ad202, e202, hx202_0⟩ := Kd.at_int (Kd.R_reads' HO_10.out).2.2 x15_5 p202 q202
                     obtain rfl : ad201 = ad202 := (by injection e202)
                     replace p202 := eq_true p202
                     replace q202 := eq_true q202
                     refine start_ (n := 24) (S := fun w' => w'.cell? (ad201.add (x12_2).toNat) = some (.int .i64 (rd t189 x12_2)) ∧ w'.cell? (ad201.add (x15_5).toNat) = some (.int .i64 (rd t189 x15_5))) (ds := []) #[f_,f_,f_,f_,f_,f_,f_,f_,f_,f_,f_,f_,f_,f_,f_,f_,f_,f_,f_,f_,f_,f_,f_,f_] (by kernel_rfl) rfl rfl ⟨hx201_0, hx202_0⟩ (fun hHeld => ?_); refine with_tabW flyleaflaw13_PlaceApart.tab25 flyleaflaw13_PlaceApart.bits25 (fun HT_ HW_ => ?_)
                     generalize wr.drew = w57 at HO_6 HO_10 BK182 HB hx201_0 hx202_0 hHeld ⊢
                     refine pure_ (i := 0) (N := some 162) (v := ?_) (a' := ?_) #[t_,f_,f_,f_,f_,f_,f_,f_,f_,f_,f_,f_,f_,f_,f_,f_,f_,f_,f_,f_,f_,f_,f_,f_] rfl rfl (any_of HT_.out (by kernel_rfl)) (fun _ _ _ h => h) (Or.inl ⟨by rfl, ?_⟩) ?_ ?_; rotate_left; intro w'; go_simp; with_reducible rfl; rotate_left; simp only [Act.put, sA_, sB_, sC_, i64_w, i32_w]; rfl
                     refine pure_ (i := 1) (N := some 163) (v := ?_) (a' := ?_) #[t_,t_,f_,f_,f_,f_,f_,f_,f_,f_,f_,f_,f_,f_,f_,f_,f_,f_,f_,f_,f_,f_,f_,f_] rfl rfl (any_of HT_.out (by kernel_rfl)) (fun _ _ _ h => h) (Or.inl ⟨by rfl, ?_⟩) ?_ ?_; rotate_left; intro w'; go_simp; with_reducible rfl; rotate_left; simp only [Act.put, sA_, sB_, sC_, i64_w, i32_w]; rfl
                     refine pure_ (i := 2) (N := some 164) (v := ?_) (a' := ?_) #[t_,t_,t_,f_,f_,f_,f_,f_,f_,f_,f_,f_,f_,f_,f_,f_,f_,f_,f_,f_,f_,f_,f_,f_] rfl rfl (any_of HT_.out (by kernel_rfl)) (fun _ _ _ h => h) (Or.inl ⟨by rfl, ?_⟩) ?_ ?_; rotate_left; intro w'; go_simp; with_reducible rfl; rotate_left; simp only [Act.put, sA_, sB_, sC_, i64_w, i32_w]; rfl
                     refine pure_ (i := 4) (N := some 166) (v := ?_) (a' := ?_) #[t_,t_,t_,f_,t_,f_,f_,f_,f_,f_,f_,f_,f_,f_,f_,f_,f_,f_,f_,f_,f_,f_,f_,f_] rfl rfl (any_of HT_.out (by kernel_rfl)) (fun _ _ _ h => h) (Or.inl ⟨by rfl, ?_⟩) ?_ ?_; rotate_left; intro w'; go_simp; with_reducible rfl; rotate_left; simp only [Act.put, sA_, sB_, sC_, i64_w, i32_w]; rfl
                     refine pure_ (i := 5) (N := some 167) (v := ?_) (a' := ?_) #[t_,t_,t_,f_,t_,t_,f_,f_,f_,f_,f_,f_,f_,f_,f_,f_,f_,f_,f_,f_,f_,f_,f_,f_] rfl rfl (any_of HT_.out (by kernel_rfl)) (fun _ _ _ h => h) (Or.inl ⟨by rfl, ?_⟩) ?_ ?_; rotate_left; intro w'; go_simp; with_reducible rfl; rotate_left; simp only [Act.put, sA_, sB_, sC_, i64_w, i32_w]; rfl
                     refine pure_ (i := 6) (N := some 168) (v := ?_) (a' := ?_) #[t_,t_,t_,f_,t_,t_,t_,f_,f_,f_,f_,f_,f_,f_,f_,f_,f_,f_,f_,f_,f_,f_,f_,f_] rfl rfl (any_of HT_.out (by kernel_rfl)) (fun _ _ _ h => h) (Or.inl ⟨by rfl, ?_⟩) ?_ ?_; rotate_left; intro w'; go_simp; with_reducible rfl; rotate_left; simp only [Act.put, sA_, sB_, sC_, i64_w, i32_w]; rfl
                     refine pure_ (i := 8) (N := some 170) (v := ?_) (a' := ?_) #[t_,t_,t_,f_,t_,t_,t_,f_,t_,f_,f_,f_,f_,f_,f_,f_,f_,f_,f_,f_,f_,f_,f_,f_] rfl rfl (any_of HT_.out (by kernel_rfl)) (fun _ _ _ h => h) (Or.inl ⟨by rfl, ?_⟩) ?_ ?_; rotate_left; intro w'; go_simp; with_reducible rfl; rotate_left; simp only [Act.put, sA_, sB_, sC_, i64_w, i32_w]; rfl
                     refine take_ (i := 3) (N := some 165) (v := ?_) (a' := ?_) #[t_,t_,t_,t_,t_,t_,t_,f_,t_,f_,f_,f_,f_,f_,f_,f_,f_,f_,f_,f_,f_,f_,f_,f_] rfl rfl (take_ofW HT_.out HW_.out (by kernel_rfl)) (fun _ _ _ h => h) (Or.inl ⟨by rfl, ?_⟩) hHeld ?_ ?_; rotate_left; rintro w' ⟨s0, s1⟩; go_simp; with_reducible rfl; rotate_left; simp only [Act.put, sA_, sB_, sC_, i64_w, i32_w]; rfl
                     refine take_ (i := 7) (N := some 169) (v := ?_) (a' := ?_) #[t_,t_,t_,t_,t_,t_,t_,t_,t_,f_,f_,f_,f_,f_,f_,f_,f_,f_,f_,f_,f_,f_,f_,f_] rfl rfl (take_ofW HT_.out HW_.out (by kernel_rfl)) (fun _ _ _ h => h) (Or.inl ⟨by rfl, ?_⟩) hHeld ?_ ?_; rotate_left; rintro w' ⟨s0, s1⟩; go_simp; with_reducible rfl; rotate_left; simp only [Act.put, sA_, sB_, sC_, i64_w, i32_w]; rfl
                     refine pure_ (i := 9) (N := some 171) (v := ?_) (a' := ?_) #[t_,t_,t_,t_,t_,t_,t_,t_,t_,t_,f_,f_,f_,f_,f_,f_,f_,f_,f_,f_,f_,f_,f_,f_] rfl rfl (any_of HT_.out (by kernel_rfl)) (fun _ _ _ h => h) (Or.inl ⟨by rfl, ?_⟩) ?_ ?_; rotate_left; intro w'; go_simp; with_reducible rfl; rotate_left; simp only [Act.put, sA_, sB_, sC_, i64_w, i32_w]; rfl
                     refine pure_ (i := 10) (N := some 172) (v := ?_) (a' := ?_) #[t_,t_,t_,t_,t_,t_,t_,t_,t_,t_,t_,f_,f_,f_,f_,f_,f_,f_,f_,f_,f_,f_,f_,f_] rfl rfl (any_of HT_.out (by kernel_rfl)) (fun _ _ _ h => h) (Or.inl ⟨by rfl, ?_⟩) ?_ ?_; rotate_left; intro w'; go_simp; with_reducible rfl; rotate_left; simp only [Act.put, sA_, sB_, sC_, i64_w, i32_w]; rfl
                     refine pure_ (i := 11) (N := some 173) (v := ?_) (a' := ?_) #[t_,t_,t_,t_,t_,t_,t_,t_,t_,t_,t_,t_,f_,f_,f_,f_,f_,f_,f_,f_,f_,f_,f_,f_] rfl rfl (any_of HT_.out (by kernel_rfl)) (fun _ _ _ h => h) (Or.inl ⟨by rfl, ?_⟩) ?_ ?_; rotate_left; intro w'; go_simp; with_reducible rfl; rotate_left; simp only [Act.put, sA_, sB_, sC_, i64_w, i32_w]; rfl
                     refine pure_ (i := 12) (N := some 174) (v := undef) (a' := ?_) #[t_,t_,t_,t_,t_,t_,t_,t_,t_,t_,t_,t_,t_,f_,f_,f_,f_,f_,f_,f_,f_,f_,f_,f_] rfl rfl (any_of HT_.out (by kernel_rfl)) (fun _ _ _ h => h) (Or.inr ⟨by rfl, rfl⟩) ?_ ?_
                     rotate_left
                     · simp only [Act.put, sA_, sB_, sC_, i64_w, i32_w]
                       rfl
                     refine pure_ (i := 13) (N := some 175) (v := undef) (a' := ?_) #[t_,t_,t_,t_,t_,t_,t_,t_,t_,t_,t_,t_,t_,t_,f_,f_,f_,f_,f_,f_,f_,f_,f_,f_] rfl rfl (any_of HT_.out (by kernel_rfl)) (fun _ _ _ h => h) (Or.inr ⟨by rfl, rfl⟩) ?_ ?_
                     rotate_left
                     · simp only [Act.put, sA_, sB_, sC_, i64_w, i32_w]
                       rfl
                     refine pure_ (i := 14) (N := some 176) (v := undef) (a' := ?_) #[t_,t_,t_,t_,t_,t_,t_,t_,t_,t_,t_,t_,t_,t_,t_,f_,f_,f_,f_,f_,f_,f_,f_,f_] rfl rfl (any_of HT_.out (by kernel_rfl)) (fun _ _ _ h => h) (Or.inr ⟨by rfl, rfl⟩) ?_ ?_
                     rotate_left
                     · simp only [Act.put, sA_, sB_, sC_, i64_w, i32_w]
                       rfl
                     refine pure_ (i := 15) (N := some 177) (v := undef) (a' := ?_) #[t_,t_,t_,t_,t_,t_,t_,t_,t_,t_,t_,t_,t_,t_,t_,t_,f_,f_,f_,f_,f_,f_,f_,f_] rfl rfl (any_of HT_.out (by kernel_rfl)) (fun _ _ _ h => h) (Or.inr ⟨by rfl, rfl⟩) ?_ ?_
                     rotate_left
                     · simp only [Act.put, sA_, sB_, sC_, i64_w, i32_w]
                       rfl
                     refine pure_ (i := 16) (N := some 178) (v := undef) (a' := ?_) #[t_,t_,t_,t_,t_,t_,t_,t_,t_,t_,t_,t_,t_,t_,t_,t_,t_,f_,f_,f_,f_,f_,f_,f_] rfl rfl (any_of HT_.out (by kernel_rfl)) (fun _ _ _ h => h) (Or.inr ⟨by rfl, rfl⟩) ?_ ?_
                     rotate_left
                     · simp only [Act.put, sA_, sB_, sC_, i64_w, i32_w]
                       rfl
                     refine pure_ (i := 17) (N := some 179) (v := undef) (a' := ?_) #[t_,t_,t_,t_,t_,t_,t_,t_,t_,t_,t_,t_,t_,t_,t_,t_,t_,t_,f_,f_,f_,f_,f_,f_] rfl rfl (any_of HT_.out (by kernel_rfl)) (fun _ _ _ h => h) (Or.inr ⟨by rfl, rfl⟩) ?_ ?_
                     rotate_left
                     · simp only [Act.put, sA_, sB_, sC_, i64_w, i32_w]
                       rfl
                     refine pure_ (i := 18) (N := some 180) (v := undef) (a' := ?_) #[t_,t_,t_,t_,t_,t_,t_,t_,t_,t_,t_,t_,t_,t_,t_,t_,t_,t_,t_,f_,f_,f_,f_,f_] rfl rfl (any_of HT_.out (by kernel_rfl)) (fun _ _ _ h => h) (Or.inr ⟨by rfl, rfl⟩) ?_ ?_
                     rotate_left
                     · simp only [Act.put, sA_, sB_, sC_, i64_w, i32_w]
                       rfl
                     refine pure_ (i := 19) (N := some 181) (v := undef) (a' := ?_) #[t_,t_,t_,t_,t_,t_,t_,t_,t_,t_,t_,t_,t_,t_,t_,t_,t_,t_,t_,t_,f_,f_,f_,f_] rfl rfl (any_of HT_.out (by kernel_rfl)) (fun _ _ _ h => h) (Or.inr ⟨by rfl, rfl⟩) ?_ ?_
                     rotate_left
                     · simp only [Act.put, sA_, sB_, sC_, i64_w, i32_w]
                       rfl
                     refine pure_ (i := 20) (N := some 182) (v := undef) (a' := ?_) #[t_,t_,t_,t_,t_,t_,t_,t_,t_,t_,t_,t_,t_,t_,t_,t_,t_,t_,t_,t_,t_,f_,f_,f_] rfl rfl (any_of HT_.out (by kernel_rfl)) (fun _ _ _ h => h) (Or.inr ⟨by rfl, rfl⟩) ?_ ?_
                     rotate_left
                     · simp only [Act.put, sA_, sB_, sC_, i64_w, i32_w]
                       rfl
                     refine pure_ (i := 21) (N := some 183) (v := undef) (a' := ?_) #[t_,t_,t_,t_,t_,t_,t_,t_,t_,t_,t_,t_,t_,t_,t_,t_,t_,t_,t_,t_,t_,t_,f_,f_] rfl rfl (any_of HT_.out (by kernel_rfl)) (fun _ _ _ h => h) (Or.inr ⟨by rfl, rfl⟩) ?_ ?_
                     rotate_left
                     · simp only [Act.put, sA_, sB_, sC_, i64_w, i32_w]
                       rfl
                     refine pure_ (i := 22) (N := some 184) (v := undef) (a' := ?_) #[t_,t_,t_,t_,t_,t_,t_,t_,t_,t_,t_,t_,t_,t_,t_,t_,t_,t_,t_,t_,t_,t_,t_,f_] rfl rfl (any_of HT_.out (by kernel_rfl)) (fun _ _ _ h => h) (Or.inr ⟨by rfl, rfl⟩) ?_ ?_
                     rotate_left
                     · simp only [Act.put, sA_, sB_, sC_, i64_w, i32_w]
                       rfl
                     refine pure_ (i := 23) (N := some 185) (v := ?_) (a' := ?_) #[t_,t_,t_,t_,t_,t_,t_,t_,t_,t_,t_,t_,t_,t_,t_,t_,t_,t_,t_,t_,t_,t_,t_,t_] rfl rfl (any_of HT_.out (by kernel_rfl)) (fun _ _ _ h => h) (Or.inl ⟨by rfl, ?_⟩) ?_ ?_; rotate_left; intro w'; go_simp; with_reducible rfl; rotate_left; simp only [Act.put, sA_, sB_, sC_, i64_w, i32_w]; rfl
                     refine done_ (done_of HT_.out (by kernel_rfl)) ?_
                     try go_wp2
                     have n0_ := Aside0.mk (Kd.R_drew HO_6.out)
                     have n1_ := Aside0.mk (Kd.R_drew HO_10.out)
                     have n2_ := Aside0.mk (blk_drew BK182.out)
                     have n3_ := Aside0.mk (below_drew1 HB.out)
                     clear HO_6
                     clear HO_10
                     clear BK182
                     clear HB
                     have HO_6 := n0_
                     have HO_10 := n1_
                     have BK182 := n2_
                     have HB := n3_
                     clear n0_ n1_ n2_ n3_
                     refine start_ (n := 30) (S := fun w' => True) (ds := []) #[f_,f_,f_,f_,f_,f_,f_,f_,f_,f_,f_,f_,f_,f_,f_,f_,f_,f_,f_,f_,f_,f_,f_,f_,f_,f_,f_,f_,f_,f_] (by kernel_rfl) rfl rfl trivial (fun hHeld => ?_); refine with_tabW flyleaflaw13_PlaceApart.tab27 flyleaflaw13_PlaceApart.bits27 (fun HT_ HW_ => ?_)
                     generalize w57.drew = w58 at HO_6 HO_10 BK182 HB hHeld ⊢
                     refine pure_ (i := 0) (N := some 186) (v := ?_) (a' := ?_) #[t_,f_,f_,f_,f_,f_,f_,f_,f_,f_,f_,f_,f_,f_,f_,f_,f_,f_,f_,f_,f_,f_,f_,f_,f_,f_,f_,f_,f_,f_] rfl rfl (any_of HT_.out (by kernel_rfl)) (fun _ _ _ h => h) (Or.inl ⟨by rfl, ?_⟩) ?_ ?_; rotate_left; intro w'; go_simp; with_reducible rfl; rotate_left; simp only [Act.put, sA_, sB_, sC_, i64_w, i32_w]; rfl
                     refine pure_ (i := 1) (N := some 187) (v := ?_) (a' := ?_) #[t_,t_,f_,f_,f_,f_,f_,f_,f_,f_,f_,f_,f_,f_,f_,f_,f_,f_,f_,f_,f_,f_,f_,f_,f_,f_,f_,f_,f_,f_] rfl rfl (any_of HT_.out (by kernel_rfl)) (fun _ _ _ h => h) (Or.inl ⟨by rfl, ?_⟩) ?_ ?_; rotate_left; intro w'; go_simp; with_reducible rfl; rotate_left; simp only [Act.put, sA_, sB_, sC_, i64_w, i32_w]; rfl
                     refine pure_ (i := 2) (N := some 188) (v := undef) (a' := ?_) #[t_,t_,t_,f_,f_,f_,f_,f_,f_,f_,f_,f_,f_,f_,f_,f_,f_,f_,f_,f_,f_,f_,f_,f_,f_,f_,f_,f_,f_,f_] rfl rfl (any_of HT_.out (by kernel_rfl)) (fun _ _ _ h => h) (Or.inr ⟨by rfl, rfl⟩) ?_ ?_
                     rotate_left
                     · simp only [Act.put, sA_, sB_, sC_, i64_w, i32_w]
                       rfl
                     refine pure_ (i := 3) (N := some 189) (v := undef) (a' := ?_) #[t_,t_,t_,t_,f_,f_,f_,f_,f_,f_,f_,f_,f_,f_,f_,f_,f_,f_,f_,f_,f_,f_,f_,f_,f_,f_,f_,f_,f_,f_] rfl rfl (any_of HT_.out (by kernel_rfl)) (fun _ _ _ h => h) (Or.inr ⟨by rfl, rfl⟩) ?_ ?_
                     rotate_left
                     · simp only [Act.put, sA_, sB_, sC_, i64_w, i32_w]
                       rfl
                     refine pure_ (i := 4) (N := some 190) (v := undef) (a' := ?_) #[t_,t_,t_,t_,t_,f_,f_,f_,f_,f_,f_,f_,f_,f_,f_,f_,f_,f_,f_,f_,f_,f_,f_,f_,f_,f_,f_,f_,f_,f_] rfl rfl (any_of HT_.out (by kernel_rfl)) (fun _ _ _ h => h) (Or.inr ⟨by rfl, rfl⟩) ?_ ?_
                     rotate_left
                     · simp only [Act.put, sA_, sB_, sC_, i64_w, i32_w]
                       rfl
                     refine pure_ (i := 5) (N := some 191) (v := undef) (a' := ?_) #[t_,t_,t_,t_,t_,t_,f_,f_,f_,f_,f_,f_,f_,f_,f_,f_,f_,f_,f_,f_,f_,f_,f_,f_,f_,f_,f_,f_,f_,f_] rfl rfl (any_of HT_.out (by kernel_rfl)) (fun _ _ _ h => h) (Or.inr ⟨by rfl, rfl⟩) ?_ ?_
                     rotate_left
                     · simp only [Act.put, sA_, sB_, sC_, i64_w, i32_w]
                       rfl
                     refine pure_ (i := 6) (N := some 192) (v := undef) (a' := ?_) #[t_,t_,t_,t_,t_,t_,t_,f_,f_,f_,f_,f_,f_,f_,f_,f_,f_,f_,f_,f_,f_,f_,f_,f_,f_,f_,f_,f_,f_,f_] rfl rfl (any_of HT_.out (by kernel_rfl)) (fun _ _ _ h => h) (Or.inr ⟨by rfl, rfl⟩) ?_ ?_
                     rotate_left
                     · simp only [Act.put, sA_, sB_, sC_, i64_w, i32_w]
                       rfl
                     refine pure_ (i := 7) (N := some 193) (v := undef) (a' := ?_) #[t_,t_,t_,t_,t_,t_,t_,t_,f_,f_,f_,f_,f_,f_,f_,f_,f_,f_,f_,f_,f_,f_,f_,f_,f_,f_,f_,f_,f_,f_] rfl rfl (any_of HT_.out (by kernel_rfl)) (fun _ _ _ h => h) (Or.inr ⟨by rfl, rfl⟩) ?_ ?_
                     rotate_left
                     · simp only [Act.put, sA_, sB_, sC_, i64_w, i32_w]
                       rfl
                     refine pure_ (i := 8) (N := some 194) (v := undef) (a' := ?_) #[t_,t_,t_,t_,t_,t_,t_,t_,t_,f_,f_,f_,f_,f_,f_,f_,f_,f_,f_,f_,f_,f_,f_,f_,f_,f_,f_,f_,f_,f_] rfl rfl (any_of HT_.out (by kernel_rfl)) (fun _ _ _ h => h) (Or.inr ⟨by rfl, rfl⟩) ?_ ?_
                     rotate_left
                     · simp only [Act.put, sA_, sB_, sC_, i64_w, i32_w]
                       rfl
                     refine pure_ (i := 9) (N := some 195) (v := undef) (a' := ?_) #[t_,t_,t_,t_,t_,t_,t_,t_,t_,t_,f_,f_,f_,f_,f_,f_,f_,f_,f_,f_,f_,f_,f_,f_,f_,f_,f_,f_,f_,f_] rfl rfl (any_of HT_.out (by kernel_rfl)) (fun _ _ _ h => h) (Or.inr ⟨by rfl, rfl⟩) ?_ ?_
                     rotate_left
                     · simp only [Act.put, sA_, sB_, sC_, i64_w, i32_w]
                       rfl
                     refine pure_ (i := 10) (N := some 196) (v := undef) (a' := ?_) #[t_,t_,t_,t_,t_,t_,t_,t_,t_,t_,t_,f_,f_,f_,f_,f_,f_,f_,f_,f_,f_,f_,f_,f_,f_,f_,f_,f_,f_,f_] rfl rfl (any_of HT_.out (by kernel_rfl)) (fun _ _ _ h => h) (Or.inr ⟨by rfl, rfl⟩) ?_ ?_
                     rotate_left
                     · simp only [Act.put, sA_, sB_, sC_, i64_w, i32_w]
                       rfl
                     refine pure_ (i := 11) (N := some 197) (v := undef) (a' := ?_) #[t_,t_,t_,t_,t_,t_,t_,t_,t_,t_,t_,t_,f_,f_,f_,f_,f_,f_,f_,f_,f_,f_,f_,f_,f_,f_,f_,f_,f_,f_] rfl rfl (any_of HT_.out (by kernel_rfl)) (fun _ _ _ h => h) (Or.inr ⟨by rfl, rfl⟩) ?_ ?_
                     rotate_left
                     · simp only [Act.put, sA_, sB_, sC_, i64_w, i32_w]
                       rfl
                     refine pure_ (i := 12) (N := some 198) (v := undef) (a' := ?_) #[t_,t_,t_,t_,t_,t_,t_,t_,t_,t_,t_,t_,t_,f_,f_,f_,f_,f_,f_,f_,f_,f_,f_,f_,f_,f_,f_,f_,f_,f_] rfl rfl (any_of HT_.out (by kernel_rfl)) (fun _ _ _ h => h) (Or.inr ⟨by rfl, rfl⟩) ?_ ?_
                     rotate_left
                     · simp only [Act.put, sA_, sB_, sC_, i64_w, i32_w]
                       rfl
                     refine pure_ (i := 13) (N := some 199) (v := undef) (a' := ?_) #[t_,t_,t_,t_,t_,t_,t_,t_,t_,t_,t_,t_,t_,t_,f_,f_,f_,f_,f_,f_,f_,f_,f_,f_,f_,f_,f_,f_,f_,f_] rfl rfl (any_of HT_.out (by kernel_rfl)) (fun _ _ _ h => h) (Or.inr ⟨by rfl, rfl⟩) ?_ ?_
                     rotate_left
                     · simp only [Act.put, sA_, sB_, sC_, i64_w, i32_w]
                       rfl
                     refine pure_ (i := 14) (N := some 200) (v := undef) (a' := ?_) #[t_,t_,t_,t_,t_,t_,t_,t_,t_,t_,t_,t_,t_,t_,t_,f_,f_,f_,f_,f_,f_,f_,f_,f_,f_,f_,f_,f_,f_,f_] rfl rfl (any_of HT_.out (by kernel_rfl)) (fun _ _ _ h => h) (Or.inr ⟨by rfl, rfl⟩) ?_ ?_
                     rotate_left
                     · simp only [Act.put, sA_, sB_, sC_, i64_w, i32_w]
                       rfl
                     refine pure_ (i := 15) (N := some 201) (v := undef) (a' := ?_) #[t_,t_,t_,t_,t_,t_,t_,t_,t_,t_,t_,t_,t_,t_,t_,t_,f_,f_,f_,f_,f_,f_,f_,f_,f_,f_,f_,f_,f_,f_] rfl rfl (any_of HT_.out (by kernel_rfl)) (fun _ _ _ h => h) (Or.inr ⟨by rfl, rfl⟩) ?_ ?_
                     rotate_left
                     · simp only [Act.put, sA_, sB_, sC_, i64_w, i32_w]
                       rfl
                     refine pure_ (i := 16) (N := some 202) (v := undef) (a' := ?_) #[t_,t_,t_,t_,t_,t_,t_,t_,t_,t_,t_,t_,t_,t_,t_,t_,t_,f_,f_,f_,f_,f_,f_,f_,f_,f_,f_,f_,f_,f_] rfl rfl (any_of HT_.out (by kernel_rfl)) (fun _ _ _ h => h) (Or.inr ⟨by rfl, rfl⟩) ?_ ?_
                     rotate_left
                     · simp only [Act.put, sA_, sB_, sC_, i64_w, i32_w]
                       rfl
                     refine pure_ (i := 17) (N := some 203) (v := undef) (a' := ?_) #[t_,t_,t_,t_,t_,t_,t_,t_,t_,t_,t_,t_,t_,t_,t_,t_,t_,t_,f_,f_,f_,f_,f_,f_,f_,f_,f_,f_,f_,f_] rfl rfl (any_of HT_.out (by kernel_rfl)) (fun _ _ _ h => h) (Or.inr ⟨by rfl, rfl⟩) ?_ ?_
                     rotate_left
                     · simp only [Act.put, sA_, sB_, sC_, i64_w, i32_w]
                       rfl
                     refine pure_ (i := 18) (N := some 204) (v := undef) (a' := ?_) #[t_,t_,t_,t_,t_,t_,t_,t_,t_,t_,t_,t_,t_,t_,t_,t_,t_,t_,t_,f_,f_,f_,f_,f_,f_,f_,f_,f_,f_,f_] rfl rfl (any_of HT_.out (by kernel_rfl)) (fun _ _ _ h => h) (Or.inr ⟨by rfl, rfl⟩) ?_ ?_
                     rotate_left
                     · simp only [Act.put, sA_, sB_, sC_, i64_w, i32_w]
                       rfl
                     refine pure_ (i := 19) (N := some 205) (v := undef) (a' := ?_) #[t_,t_,t_,t_,t_,t_,t_,t_,t_,t_,t_,t_,t_,t_,t_,t_,t_,t_,t_,t_,f_,f_,f_,f_,f_,f_,f_,f_,f_,f_] rfl rfl (any_of HT_.out (by kernel_rfl)) (fun _ _ _ h => h) (Or.inr ⟨by rfl, rfl⟩) ?_ ?_
                     rotate_left
                     · simp only [Act.put, sA_, sB_, sC_, i64_w, i32_w]
                       rfl
                     refine pure_ (i := 20) (N := some 206) (v := undef) (a' := ?_) #[t_,t_,t_,t_,t_,t_,t_,t_,t_,t_,t_,t_,t_,t_,t_,t_,t_,t_,t_,t_,t_,f_,f_,f_,f_,f_,f_,f_,f_,f_] rfl rfl (any_of HT_.out (by kernel_rfl)) (fun _ _ _ h => h) (Or.inr ⟨by rfl, rfl⟩) ?_ ?_
                     rotate_left
                     · simp only [Act.put, sA_, sB_, sC_, i64_w, i32_w]
                       rfl
                     refine pure_ (i := 21) (N := some 207) (v := undef) (a' := ?_) #[t_,t_,t_,t_,t_,t_,t_,t_,t_,t_,t_,t_,t_,t_,t_,t_,t_,t_,t_,t_,t_,t_,f_,f_,f_,f_,f_,f_,f_,f_] rfl rfl (any_of HT_.out (by kernel_rfl)) (fun _ _ _ h => h) (Or.inr ⟨by rfl, rfl⟩) ?_ ?_
                     rotate_left
                     · simp only [Act.put, sA_, sB_, sC_, i64_w, i32_w]
                       rfl
                     refine pure_ (i := 22) (N := some 208) (v := undef) (a' := ?_) #[t_,t_,t_,t_,t_,t_,t_,t_,t_,t_,t_,t_,t_,t_,t_,t_,t_,t_,t_,t_,t_,t_,t_,f_,f_,f_,f_,f_,f_,f_] rfl rfl (any_of HT_.out (by kernel_rfl)) (fun _ _ _ h => h) (Or.inr ⟨by rfl, rfl⟩) ?_ ?_
                     rotate_left
                     · simp only [Act.put, sA_, sB_, sC_, i64_w, i32_w]
                       rfl
                     refine pure_ (i := 23) (N := some 209) (v := undef) (a' := ?_) #[t_,t_,t_,t_,t_,t_,t_,t_,t_,t_,t_,t_,t_,t_,t_,t_,t_,t_,t_,t_,t_,t_,t_,t_,f_,f_,f_,f_,f_,f_] rfl rfl (any_of HT_.out (by kernel_rfl)) (fun _ _ _ h => h) (Or.inr ⟨by rfl, rfl⟩) ?_ ?_
                     rotate_left
                     · simp only [Act.put, sA_, sB_, sC_, i64_w, i32_w]
                       rfl
                     refine pure_ (i := 24) (N := some 210) (v := undef) (a' := ?_) #[t_,t_,t_,t_,t_,t_,t_,t_,t_,t_,t_,t_,t_,t_,t_,t_,t_,t_,t_,t_,t_,t_,t_,t_,t_,f_,f_,f_,f_,f_] rfl rfl (any_of HT_.out (by kernel_rfl)) (fun _ _ _ h => h) (Or.inr ⟨by rfl, rfl⟩) ?_ ?_
                     rotate_left
                     · simp only [Act.put, sA_, sB_, sC_, i64_w, i32_w]
                       rfl
                     refine pure_ (i := 25) (N := some 211) (v := undef) (a' := ?_) #[t_,t_,t_,t_,t_,t_,t_,t_,t_,t_,t_,t_,t_,t_,t_,t_,t_,t_,t_,t_,t_,t_,t_,t_,t_,t_,f_,f_,f_,f_] rfl rfl (any_of HT_.out (by kernel_rfl)) (fun _ _ _ h => h) (Or.inr ⟨by rfl, rfl⟩) ?_ ?_
                     rotate_left
                     · simp only [Act.put, sA_, sB_, sC_, i64_w, i32_w]
                       rfl
                     refine pure_ (i := 26) (N := some 212) (v := undef) (a' := ?_) #[t_,t_,t_,t_,t_,t_,t_,t_,t_,t_,t_,t_,t_,t_,t_,t_,t_,t_,t_,t_,t_,t_,t_,t_,t_,t_,t_,f_,f_,f_] rfl rfl (any_of HT_.out (by kernel_rfl)) (fun _ _ _ h => h) (Or.inr ⟨by rfl, rfl⟩) ?_ ?_
                     rotate_left
                     · simp only [Act.put, sA_, sB_, sC_, i64_w, i32_w]
                       rfl
                     refine pure_ (i := 27) (N := some 213) (v := undef) (a' := ?_) #[t_,t_,t_,t_,t_,t_,t_,t_,t_,t_,t_,t_,t_,t_,t_,t_,t_,t_,t_,t_,t_,t_,t_,t_,t_,t_,t_,t_,f_,f_] rfl rfl (any_of HT_.out (by kernel_rfl)) (fun _ _ _ h => h) (Or.inr ⟨by rfl, rfl⟩) ?_ ?_
                     rotate_left
                     · simp only [Act.put, sA_, sB_, sC_, i64_w, i32_w]
                       rfl
                     refine pure_ (i := 28) (N := some 214) (v := ?_) (a' := ?_) #[t_,t_,t_,t_,t_,t_,t_,t_,t_,t_,t_,t_,t_,t_,t_,t_,t_,t_,t_,t_,t_,t_,t_,t_,t_,t_,t_,t_,t_,f_] rfl rfl (any_of HT_.out (by kernel_rfl)) (fun _ _ _ h => h) (Or.inl ⟨by rfl, ?_⟩) ?_ ?_; rotate_left; intro w'; go_simp; with_reducible rfl; rotate_left; simp only [Act.put, sA_, sB_, sC_, i64_w, i32_w]; rfl
                     refine pure_ (i := 29) (N := some 14) (v := ?_) (a' := ?_) #[t_,t_,t_,t_,t_,t_,t_,t_,t_,t_,t_,t_,t_,t_,t_,t_,t_,t_,t_,t_,t_,t_,t_,t_,t_,t_,t_,t_,t_,t_] rfl rfl (any_of HT_.out (by kernel_rfl)) (fun _ _ _ h => h) (Or.inl ⟨by rfl, ?_⟩) ?_ ?_; rotate_left; intro w'; go_simp; with_reducible rfl; rotate_left; simp only [Act.put, sA_, sB_, sC_, i64_w, i32_w]; rfl
                     refine done_ (done_of HT_.out (by kernel_rfl)) ?_
                     try go_wp2
                     go_roundg k5
                     case measure => have := HJ3.out; have := HK2.out; have := HJ22.out; have := HJ26.out; have := HK5.out; omega
                     case rel => exact ⟨(false), (wrap64 (x15_5 + 1)), (by first | rfl | (simp; done) | (simp [*]; done)), (by first | rfl | (simp; done) | (simp [*]; done)), H', ⟨by have := HJ3.out; have := HK2.out; have := HJ22.out; have := HJ26.out; have := HK5.out; omega⟩, ⟨by (with_reducible repeat (first | apply Kd.R_alloc | apply Kd.R_drewN | apply Kd.R_drew)); exact HO_6.out⟩, ⟨by (with_reducible repeat (first | apply Kd.R_alloc | apply Kd.R_drewN | apply Kd.R_drew)); exact HO_10.out⟩, ⟨by (with_reducible repeat (first | refine blk_drewN ?_ _ | refine blk_drew ?_ | refine blk_alloc ?_ _)); exact BK182.out⟩, ⟨by repeat (first | (with_reducible first | exact HB.out | apply below_alloc | apply pw_below_drewN | apply below_drew1 | refine below_set ?_ GE182.out) | exact HB.out)⟩⟩
                  subst c50
                  have H1 : (if x12_2 < (x6_3.length : Int) then (if ((rd_T34 x6_3 x12_2).f1) ≥ (wrap64 ((rd t189 x15_5) + (wrap64 ((wrap64 (Int.tdiv (wrap64 (((rd_T34 x6_3 x15_5).f0) + 63)) 64)) * 64)))) then (flyleaflaw13_PlaceApart.l2 k5 t183 x6_3 (wrap64 (64 * (Go.bits .and .i64 a1_0 63))) (wrap64 ((wrap64 (64 * (Go.bits .and .i64 a1_0 63))) + (wrap64 (64 * (Go.bits .and .i64 a1_1 127))))) t189 x12_2 (wrap64 ((wrap64 (Int.tdiv (wrap64 (((rd_T34 x6_3 x12_2).f0) + 63)) 64)) * 64)) true (wrap64 (x15_5 + 1))) else (flyleaflaw13_PlaceApart.l2 k5 t183 x6_3 (wrap64 (64 * (Go.bits .and .i64 a1_0 63))) (wrap64 ((wrap64 (64 * (Go.bits .and .i64 a1_0 63))) + (wrap64 (64 * (Go.bits .and .i64 a1_1 127))))) t189 x12_2 (wrap64 ((wrap64 (Int.tdiv (wrap64 (((rd_T34 x6_3 x12_2).f0) + 63)) 64)) * 64)) (decide ((rd t189 x15_5) ≥ (wrap64 (((rd_T34 x6_3 x12_2).f1) + (wrap64 ((wrap64 (Int.tdiv (wrap64 (((rd_T34 x6_3 x12_2).f0) + 63)) 64)) * 64)))))) (wrap64 (x15_5 + 1)))) else (none)) = some r := by rw [if_pos rfl] at H; exact H
                  clear H
                  have H := H1
                  clear H1
                  by_cases c51 : x12_2 < (x6_3.length : Int)
                  rotate_left
                  · rw [if_neg c51] at H
                    exact absurd H (by simp)
                  rw [if_pos c51] at H
                  have c51b0 : decide (x12_2 < (x6_3.length : Int)) = true := decide_eq_true c51
                  clear c51
                  by_cases c52 : ((rd_T34 x6_3 x12_2).f1) ≥ (wrap64 ((rd t189 x15_5) + (wrap64 ((wrap64 (Int.tdiv (wrap64 (((rd_T34 x6_3 x15_5).f0) + 63)) 64)) * 64))))
                  · rw [if_pos c52] at H
                    have c52b0 : decide ((wrap64 ((rd t189 x15_5) + (wrap64 ((wrap64 (Int.tdiv (wrap64 (((rd_T34 x6_3 x15_5).f0) + 63)) 64)) * 64)))) ≤ ((rd_T34 x6_3 x12_2).f1)) = true := decide_eq_true c52
                    clear c52
                    as_aux_lemma =>
                     have H' := Aside0.mk H
                     clear H
                     have p200 : 0 ≤ (x15_5 : Int) := of_decide_eq_true (by first | (with_reducible assumption) | assumption)
                     have q200 : x15_5 < (x6_3.length : Int) := of_decide_eq_true (by first | (with_reducible assumption) | assumption)
                     obtain ⟨ad200, e200, hx200_0, hx200_1⟩ := at_T34 (Kd.R_reads' HO_6.out).2.2 x15_5 p200 q200
                     obtain rfl : ad193 = ad200 := (by injection e200)
                     replace p200 := eq_true p200
                     replace q200 := eq_true q200
                     try go_wp2
                     have n0_ := Aside0.mk (Kd.R_drew HO_6.out)
                     have n1_ := Aside0.mk (Kd.R_drew HO_10.out)
                     have n2_ := Aside0.mk (blk_drew BK182.out)
                     have n3_ := Aside0.mk (below_drew1 HB.out)
                     clear HO_6
                     clear HO_10
                     clear BK182
                     clear HB
                     have HO_6 := n0_
                     have HO_10 := n1_
                     have BK182 := n2_
                     have HB := n3_
                     clear n0_ n1_ n2_ n3_
                     have p201 : 0 ≤ (x12_2 : Int) := of_decide_eq_true (by first | (with_reducible assumption) | assumption)
                     have q201 : x12_2 < (t189.length : Int) := of_decide_eq_true (by first | (with_reducible assumption) | assumption)
                     obtain ⟨ad201, e201, hx201_0⟩ := Kd.at_int (Kd.R_reads' HO_10.out).2.2 x12_2 p201 q201
                     cases e201
                     replace p201 := eq_true p201
                     replace q201 := eq_true q201
                     have p202 : 0 ≤ (x15_5 : Int) := of_decide_eq_true (by first | (with_reducible assumption) | assumption)
                     have q202 : x15_5 < (t189.length : Int) := of_decide_eq_true (by first | (with_reducible assumption) | assumption)
                     obtain ⟨ad202, e202, hx202_0⟩ := Kd.at_int (Kd.R_reads' HO_10.out).2.2 x15_5 p202 q202
                     obtain rfl : ad201 = ad202 := (by injection e202)
                     replace p202 := eq_true p202
                     replace q202 := eq_true q202
                     refine start_ (n := 24) (S := fun w' => w'.cell? (ad201.add (x12_2).toNat) = some (.int .i64 (rd t189 x12_2)) ∧ w'.cell? (ad201.add (x15_5).toNat) = some (.int .i64 (rd t189 x15_5))) (ds := []) #[f_,f_,f_,f_,f_,f_,f_,f_,f_,f_,f_,f_,f_,f_,f_,f_,f_,f_,f_,f_,f_,f_,f_,f_] (by kernel_rfl) rfl rfl ⟨hx201_0, hx202_0⟩ (fun hHeld => ?_); refine with_tabW flyleaflaw13_PlaceApart.tab25 flyleaflaw13_PlaceApart.bits25 (fun HT_ HW_ => ?_)
                     generalize wr.drew = w53 at HO_6 HO_10 BK182 HB hx201_0 hx202_0 hHeld ⊢
                     refine pure_ (i := 0) (N := some 162) (v := ?_) (a' := ?_) #[t_,f_,f_,f_,f_,f_,f_,f_,f_,f_,f_,f_,f_,f_,f_,f_,f_,f_,f_,f_,f_,f_,f_,f_] rfl rfl (any_of HT_.out (by kernel_rfl)) (fun _ _ _ h => h) (Or.inl ⟨by rfl, ?_⟩) ?_ ?_; rotate_left; intro w'; go_simp; with_reducible rfl; rotate_left; simp only [Act.put, sA_, sB_, sC_, i64_w, i32_w]; rfl
                     refine pure_ (i := 1) (N := some 163) (v := ?_) (a' := ?_) #[t_,t_,f_,f_,f_,f_,f_,f_,f_,f_,f_,f_,f_,f_,f_,f_,f_,f_,f_,f_,f_,f_,f_,f_] rfl rfl (any_of HT_.out (by kernel_rfl)) (fun _ _ _ h => h) (Or.inl ⟨by rfl, ?_⟩) ?_ ?_; rotate_left; intro w'; go_simp; with_reducible rfl; rotate_left; simp only [Act.put, sA_, sB_, sC_, i64_w, i32_w]; rfl
                     refine pure_ (i := 2) (N := some 164) (v := ?_) (a' := ?_) #[t_,t_,t_,f_,f_,f_,f_,f_,f_,f_,f_,f_,f_,f_,f_,f_,f_,f_,f_,f_,f_,f_,f_,f_] rfl rfl (any_of HT_.out (by kernel_rfl)) (fun _ _ _ h => h) (Or.inl ⟨by rfl, ?_⟩) ?_ ?_; rotate_left; intro w'; go_simp; with_reducible rfl; rotate_left; simp only [Act.put, sA_, sB_, sC_, i64_w, i32_w]; rfl
                     refine pure_ (i := 4) (N := some 166) (v := ?_) (a' := ?_) #[t_,t_,t_,f_,t_,f_,f_,f_,f_,f_,f_,f_,f_,f_,f_,f_,f_,f_,f_,f_,f_,f_,f_,f_] rfl rfl (any_of HT_.out (by kernel_rfl)) (fun _ _ _ h => h) (Or.inl ⟨by rfl, ?_⟩) ?_ ?_; rotate_left; intro w'; go_simp; with_reducible rfl; rotate_left; simp only [Act.put, sA_, sB_, sC_, i64_w, i32_w]; rfl
                     refine pure_ (i := 5) (N := some 167) (v := ?_) (a' := ?_) #[t_,t_,t_,f_,t_,t_,f_,f_,f_,f_,f_,f_,f_,f_,f_,f_,f_,f_,f_,f_,f_,f_,f_,f_] rfl rfl (any_of HT_.out (by kernel_rfl)) (fun _ _ _ h => h) (Or.inl ⟨by rfl, ?_⟩) ?_ ?_; rotate_left; intro w'; go_simp; with_reducible rfl; rotate_left; simp only [Act.put, sA_, sB_, sC_, i64_w, i32_w]; rfl
                     refine pure_ (i := 6) (N := some 168) (v := ?_) (a' := ?_) #[t_,t_,t_,f_,t_,t_,t_,f_,f_,f_,f_,f_,f_,f_,f_,f_,f_,f_,f_,f_,f_,f_,f_,f_] rfl rfl (any_of HT_.out (by kernel_rfl)) (fun _ _ _ h => h) (Or.inl ⟨by rfl, ?_⟩) ?_ ?_; rotate_left; intro w'; go_simp; with_reducible rfl; rotate_left; simp only [Act.put, sA_, sB_, sC_, i64_w, i32_w]; rfl
                     refine pure_ (i := 8) (N := some 170) (v := ?_) (a' := ?_) #[t_,t_,t_,f_,t_,t_,t_,f_,t_,f_,f_,f_,f_,f_,f_,f_,f_,f_,f_,f_,f_,f_,f_,f_] rfl rfl (any_of HT_.out (by kernel_rfl)) (fun _ _ _ h => h) (Or.inl ⟨by rfl, ?_⟩) ?_ ?_; rotate_left; intro w'; go_simp; with_reducible rfl; rotate_left; simp only [Act.put, sA_, sB_, sC_, i64_w, i32_w]; rfl
                     refine take_ (i := 3) (N := some 165) (v := ?_) (a' := ?_) #[t_,t_,t_,t_,t_,t_,t_,f_,t_,f_,f_,f_,f_,f_,f_,f_,f_,f_,f_,f_,f_,f_,f_,f_] rfl rfl (take_ofW HT_.out HW_.out (by kernel_rfl)) (fun _ _ _ h => h) (Or.inl ⟨by rfl, ?_⟩) hHeld ?_ ?_; rotate_left; rintro w' ⟨s0, s1⟩; go_simp; with_reducible rfl; rotate_left; simp only [Act.put, sA_, sB_, sC_, i64_w, i32_w]; rfl
                     refine take_ (i := 7) (N := some 169) (v := ?_) (a' := ?_) #[t_,t_,t_,t_,t_,t_,t_,t_,t_,f_,f_,f_,f_,f_,f_,f_,f_,f_,f_,f_,f_,f_,f_,f_] rfl rfl (take_ofW HT_.out HW_.out (by kernel_rfl)) (fun _ _ _ h => h) (Or.inl ⟨by rfl, ?_⟩) hHeld ?_ ?_; rotate_left; rintro w' ⟨s0, s1⟩; go_simp; with_reducible rfl; rotate_left; simp only [Act.put, sA_, sB_, sC_, i64_w, i32_w]; rfl
                     refine pure_ (i := 9) (N := some 171) (v := ?_) (a' := ?_) #[t_,t_,t_,t_,t_,t_,t_,t_,t_,t_,f_,f_,f_,f_,f_,f_,f_,f_,f_,f_,f_,f_,f_,f_] rfl rfl (any_of HT_.out (by kernel_rfl)) (fun _ _ _ h => h) (Or.inl ⟨by rfl, ?_⟩) ?_ ?_; rotate_left; intro w'; go_simp; with_reducible rfl; rotate_left; simp only [Act.put, sA_, sB_, sC_, i64_w, i32_w]; rfl
                     refine pure_ (i := 10) (N := some 172) (v := ?_) (a' := ?_) #[t_,t_,t_,t_,t_,t_,t_,t_,t_,t_,t_,f_,f_,f_,f_,f_,f_,f_,f_,f_,f_,f_,f_,f_] rfl rfl (any_of HT_.out (by kernel_rfl)) (fun _ _ _ h => h) (Or.inl ⟨by rfl, ?_⟩) ?_ ?_; rotate_left; intro w'; go_simp; with_reducible rfl; rotate_left; simp only [Act.put, sA_, sB_, sC_, i64_w, i32_w]; rfl
                     refine pure_ (i := 11) (N := some 173) (v := ?_) (a' := ?_) #[t_,t_,t_,t_,t_,t_,t_,t_,t_,t_,t_,t_,f_,f_,f_,f_,f_,f_,f_,f_,f_,f_,f_,f_] rfl rfl (any_of HT_.out (by kernel_rfl)) (fun _ _ _ h => h) (Or.inl ⟨by rfl, ?_⟩) ?_ ?_; rotate_left; intro w'; go_simp; with_reducible rfl; rotate_left; simp only [Act.put, sA_, sB_, sC_, i64_w, i32_w]; rfl
                     refine pure_ (i := 12) (N := some 174) (v := undef) (a' := ?_) #[t_,t_,t_,t_,t_,t_,t_,t_,t_,t_,t_,t_,t_,f_,f_,f_,f_,f_,f_,f_,f_,f_,f_,f_] rfl rfl (any_of HT_.out (by kernel_rfl)) (fun _ _ _ h => h) (Or.inr ⟨by rfl, rfl⟩) ?_ ?_
                     rotate_left
                     · simp only [Act.put, sA_, sB_, sC_, i64_w, i32_w]
                       rfl
                     refine pure_ (i := 13) (N := some 175) (v := undef) (a' := ?_) #[t_,t_,t_,t_,t_,t_,t_,t_,t_,t_,t_,t_,t_,t_,f_,f_,f_,f_,f_,f_,f_,f_,f_,f_] rfl rfl (any_of HT_.out (by kernel_rfl)) (fun _ _ _ h => h) (Or.inr ⟨by rfl, rfl⟩) ?_ ?_
                     rotate_left
                     · simp only [Act.put, sA_, sB_, sC_, i64_w, i32_w]
                       rfl
                     refine pure_ (i := 14) (N := some 176) (v := undef) (a' := ?_) #[t_,t_,t_,t_,t_,t_,t_,t_,t_,t_,t_,t_,t_,t_,t_,f_,f_,f_,f_,f_,f_,f_,f_,f_] rfl rfl (any_of HT_.out (by kernel_rfl)) (fun _ _ _ h => h) (Or.inr ⟨by rfl, rfl⟩) ?_ ?_
                     rotate_left
                     · simp only [Act.put, sA_, sB_, sC_, i64_w, i32_w]
                       rfl
                     refine pure_ (i := 15) (N := some 177) (v := undef) (a' := ?_) #[t_,t_,t_,t_,t_,t_,t_,t_,t_,t_,t_,t_,t_,t_,t_,t_,f_,f_,f_,f_,f_,f_,f_,f_] rfl rfl (any_of HT_.out (by kernel_rfl)) (fun _ _ _ h => h) (Or.inr ⟨by rfl, rfl⟩) ?_ ?_
                     rotate_left
                     · simp only [Act.put, sA_, sB_, sC_, i64_w, i32_w]
                       rfl
                     refine pure_ (i := 16) (N := some 178) (v := undef) (a' := ?_) #[t_,t_,t_,t_,t_,t_,t_,t_,t_,t_,t_,t_,t_,t_,t_,t_,t_,f_,f_,f_,f_,f_,f_,f_] rfl rfl (any_of HT_.out (by kernel_rfl)) (fun _ _ _ h => h) (Or.inr ⟨by rfl, rfl⟩) ?_ ?_
                     rotate_left
                     · simp only [Act.put, sA_, sB_, sC_, i64_w, i32_w]
                       rfl
                     refine pure_ (i := 17) (N := some 179) (v := undef) (a' := ?_) #[t_,t_,t_,t_,t_,t_,t_,t_,t_,t_,t_,t_,t_,t_,t_,t_,t_,t_,f_,f_,f_,f_,f_,f_] rfl rfl (any_of HT_.out (by kernel_rfl)) (fun _ _ _ h => h) (Or.inr ⟨by rfl, rfl⟩) ?_ ?_
                     rotate_left
                     · simp only [Act.put, sA_, sB_, sC_, i64_w, i32_w]
                       rfl
                     refine pure_ (i := 18) (N := some 180) (v := undef) (a' := ?_) #[t_,t_,t_,t_,t_,t_,t_,t_,t_,t_,t_,t_,t_,t_,t_,t_,t_,t_,t_,f_,f_,f_,f_,f_] rfl rfl (any_of HT_.out (by kernel_rfl)) (fun _ _ _ h => h) (Or.inr ⟨by rfl, rfl⟩) ?_ ?_
                     rotate_left
                     · simp only [Act.put, sA_, sB_, sC_, i64_w, i32_w]
                       rfl
                     refine pure_ (i := 19) (N := some 181) (v := undef) (a' := ?_) #[t_,t_,t_,t_,t_,t_,t_,t_,t_,t_,t_,t_,t_,t_,t_,t_,t_,t_,t_,t_,f_,f_,f_,f_] rfl rfl (any_of HT_.out (by kernel_rfl)) (fun _ _ _ h => h) (Or.inr ⟨by rfl, rfl⟩) ?_ ?_
                     rotate_left
                     · simp only [Act.put, sA_, sB_, sC_, i64_w, i32_w]
                       rfl
                     refine pure_ (i := 20) (N := some 182) (v := undef) (a' := ?_) #[t_,t_,t_,t_,t_,t_,t_,t_,t_,t_,t_,t_,t_,t_,t_,t_,t_,t_,t_,t_,t_,f_,f_,f_] rfl rfl (any_of HT_.out (by kernel_rfl)) (fun _ _ _ h => h) (Or.inr ⟨by rfl, rfl⟩) ?_ ?_
                     rotate_left
                     · simp only [Act.put, sA_, sB_, sC_, i64_w, i32_w]
                       rfl
                     refine pure_ (i := 21) (N := some 183) (v := undef) (a' := ?_) #[t_,t_,t_,t_,t_,t_,t_,t_,t_,t_,t_,t_,t_,t_,t_,t_,t_,t_,t_,t_,t_,t_,f_,f_] rfl rfl (any_of HT_.out (by kernel_rfl)) (fun _ _ _ h => h) (Or.inr ⟨by rfl, rfl⟩) ?_ ?_
                     rotate_left
                     · simp only [Act.put, sA_, sB_, sC_, i64_w, i32_w]
                       rfl
                     refine pure_ (i := 22) (N := some 184) (v := undef) (a' := ?_) #[t_,t_,t_,t_,t_,t_,t_,t_,t_,t_,t_,t_,t_,t_,t_,t_,t_,t_,t_,t_,t_,t_,t_,f_] rfl rfl (any_of HT_.out (by kernel_rfl)) (fun _ _ _ h => h) (Or.inr ⟨by rfl, rfl⟩) ?_ ?_
                     rotate_left
                     · simp only [Act.put, sA_, sB_, sC_, i64_w, i32_w]
                       rfl
                     refine pure_ (i := 23) (N := some 185) (v := ?_) (a' := ?_) #[t_,t_,t_,t_,t_,t_,t_,t_,t_,t_,t_,t_,t_,t_,t_,t_,t_,t_,t_,t_,t_,t_,t_,t_] rfl rfl (any_of HT_.out (by kernel_rfl)) (fun _ _ _ h => h) (Or.inl ⟨by rfl, ?_⟩) ?_ ?_; rotate_left; intro w'; go_simp; with_reducible rfl; rotate_left; simp only [Act.put, sA_, sB_, sC_, i64_w, i32_w]; rfl
                     refine done_ (done_of HT_.out (by kernel_rfl)) ?_
                     try go_wp2
                     have n0_ := Aside0.mk (Kd.R_drew HO_6.out)
                     have n1_ := Aside0.mk (Kd.R_drew HO_10.out)
                     have n2_ := Aside0.mk (blk_drew BK182.out)
                     have n3_ := Aside0.mk (below_drew1 HB.out)
                     clear HO_6
                     clear HO_10
                     clear BK182
                     clear HB
                     have HO_6 := n0_
                     have HO_10 := n1_
                     have BK182 := n2_
                     have HB := n3_
                     clear n0_ n1_ n2_ n3_
                     have p209 : 0 ≤ (x12_2 : Int) := of_decide_eq_true (by first | (with_reducible assumption) | assumption)
                     have q209 : x12_2 < (x6_3.length : Int) := of_decide_eq_true (by first | (with_reducible assumption) | assumption)
                     obtain ⟨ad209, e209, hx209_0, hx209_1⟩ := at_T34 (Kd.R_reads' HO_6.out).2.2 x12_2 p209 q209
                     obtain rfl : ad193 = ad209 := (by injection e209)
                     replace p209 := eq_true p209
                     replace q209 := eq_true q209
                     have p210 : 0 ≤ (x15_5 : Int) := of_decide_eq_true (by first | (with_reducible assumption) | assumption)
                     have q210 : x15_5 < (t189.length : Int) := of_decide_eq_true (by first | (with_reducible assumption) | assumption)
                     obtain ⟨ad210, e210, hx210_0⟩ := Kd.at_int (Kd.R_reads' HO_10.out).2.2 x15_5 p210 q210
                     obtain rfl : ad201 = ad210 := (by injection e210)
                     replace p210 := eq_true p210
                     replace q210 := eq_true q210
                     refine start_ (n := 30) (S := fun w' => w'.cell? (ad193.add ((x12_2).toNat * 2)) = some (.int .i64 ((rd_T34 x6_3 x12_2).f0)) ∧ w'.cell? ⟨(ad193.add ((x12_2).toNat * 2)).block, (ad193.add ((x12_2).toNat * 2)).off + 1, none⟩ = some (.int .i64 ((rd_T34 x6_3 x12_2).f1)) ∧ w'.cell? (ad201.add (x15_5).toNat) = some (.int .i64 (rd t189 x15_5))) (ds := []) #[f_,f_,f_,f_,f_,f_,f_,f_,f_,f_,f_,f_,f_,f_,f_,f_,f_,f_,f_,f_,f_,f_,f_,f_,f_,f_,f_,f_,f_,f_] (by kernel_rfl) rfl rfl ⟨hx209_0, hx209_1, hx210_0⟩ (fun hHeld => ?_); refine with_tabW flyleaflaw13_PlaceApart.tab27 flyleaflaw13_PlaceApart.bits27 (fun HT_ HW_ => ?_)
                     generalize w53.drew = w54 at HO_6 HO_10 BK182 HB hx209_0 hx209_1 hx210_0 hHeld ⊢
                     refine pure_ (i := 0) (N := some 186) (v := ?_) (a' := ?_) #[t_,f_,f_,f_,f_,f_,f_,f_,f_,f_,f_,f_,f_,f_,f_,f_,f_,f_,f_,f_,f_,f_,f_,f_,f_,f_,f_,f_,f_,f_] rfl rfl (any_of HT_.out (by kernel_rfl)) (fun _ _ _ h => h) (Or.inl ⟨by rfl, ?_⟩) ?_ ?_; rotate_left; intro w'; go_simp; with_reducible rfl; rotate_left; simp only [Act.put, sA_, sB_, sC_, i64_w, i32_w]; rfl
                     refine pure_ (i := 1) (N := some 187) (v := ?_) (a' := ?_) #[t_,t_,f_,f_,f_,f_,f_,f_,f_,f_,f_,f_,f_,f_,f_,f_,f_,f_,f_,f_,f_,f_,f_,f_,f_,f_,f_,f_,f_,f_] rfl rfl (any_of HT_.out (by kernel_rfl)) (fun _ _ _ h => h) (Or.inl ⟨by rfl, ?_⟩) ?_ ?_; rotate_left; intro w'; go_simp; with_reducible rfl; rotate_left; simp only [Act.put, sA_, sB_, sC_, i64_w, i32_w]; rfl
                     refine pure_ (i := 2) (N := some 188) (v := ?_) (a' := ?_) #[t_,t_,t_,f_,f_,f_,f_,f_,f_,f_,f_,f_,f_,f_,f_,f_,f_,f_,f_,f_,f_,f_,f_,f_,f_,f_,f_,f_,f_,f_] rfl rfl (any_of HT_.out (by kernel_rfl)) (fun _ _ _ h => h) (Or.inl ⟨by rfl, ?_⟩) ?_ ?_; rotate_left; intro w'; go_simp; with_reducible rfl; rotate_left; simp only [Act.put, sA_, sB_, sC_, i64_w, i32_w]; rfl
                     refine pure_ (i := 3) (N := some 189) (v := ?_) (a' := ?_) #[t_,t_,t_,t_,f_,f_,f_,f_,f_,f_,f_,f_,f_,f_,f_,f_,f_,f_,f_,f_,f_,f_,f_,f_,f_,f_,f_,f_,f_,f_] rfl rfl (any_of HT_.out (by kernel_rfl)) (fun _ _ _ h => h) (Or.inl ⟨by rfl, ?_⟩) ?_ ?_; rotate_left; intro w'; go_simp; with_reducible rfl; rotate_left; simp only [Act.put, sA_, sB_, sC_, i64_w, i32_w]; rfl
                     refine pure_ (i := 4) (N := some 190) (v := ?_) (a' := ?_) #[t_,t_,t_,t_,t_,f_,f_,f_,f_,f_,f_,f_,f_,f_,f_,f_,f_,f_,f_,f_,f_,f_,f_,f_,f_,f_,f_,f_,f_,f_] rfl rfl (any_of HT_.out (by kernel_rfl)) (fun _ _ _ h => h) (Or.inl ⟨by rfl, ?_⟩) ?_ ?_; rotate_left; intro w'; go_simp; with_reducible rfl; rotate_left; simp only [Act.put, sA_, sB_, sC_, i64_w, i32_w]; rfl
                     refine pure_ (i := 5) (N := some 191) (v := ?_) (a' := ?_) #[t_,t_,t_,t_,t_,t_,f_,f_,f_,f_,f_,f_,f_,f_,f_,f_,f_,f_,f_,f_,f_,f_,f_,f_,f_,f_,f_,f_,f_,f_] rfl rfl (any_of HT_.out (by kernel_rfl)) (fun _ _ _ h => h) (Or.inl ⟨by rfl, ?_⟩) ?_ ?_; rotate_left; intro w'; go_simp; with_reducible rfl; rotate_left; simp only [Act.put, sA_, sB_, sC_, i64_w, i32_w]; rfl
                     refine pure_ (i := 7) (N := some 193) (v := ?_) (a' := ?_) #[t_,t_,t_,t_,t_,t_,f_,t_,f_,f_,f_,f_,f_,f_,f_,f_,f_,f_,f_,f_,f_,f_,f_,f_,f_,f_,f_,f_,f_,f_] rfl rfl (any_of HT_.out (by kernel_rfl)) (fun _ _ _ h => h) (Or.inl ⟨by rfl, ?_⟩) ?_ ?_; rotate_left; intro w'; go_simp; with_reducible rfl; rotate_left; simp only [Act.put, sA_, sB_, sC_, i64_w, i32_w]; rfl
                     refine pure_ (i := 8) (N := some 194) (v := ?_) (a' := ?_) #[t_,t_,t_,t_,t_,t_,f_,t_,t_,f_,f_,f_,f_,f_,f_,f_,f_,f_,f_,f_,f_,f_,f_,f_,f_,f_,f_,f_,f_,f_] rfl rfl (any_of HT_.out (by kernel_rfl)) (fun _ _ _ h => h) (Or.inl ⟨by rfl, ?_⟩) ?_ ?_; rotate_left; intro w'; go_simp; with_reducible rfl; rotate_left; simp only [Act.put, sA_, sB_, sC_, i64_w, i32_w]; rfl
                     refine pure_ (i := 9) (N := some 195) (v := ?_) (a' := ?_) #[t_,t_,t_,t_,t_,t_,f_,t_,t_,t_,f_,f_,f_,f_,f_,f_,f_,f_,f_,f_,f_,f_,f_,f_,f_,f_,f_,f_,f_,f_] rfl rfl (any_of HT_.out (by kernel_rfl)) (fun _ _ _ h => h) (Or.inl ⟨by rfl, ?_⟩) ?_ ?_; rotate_left; intro w'; go_simp; with_reducible rfl; rotate_left; simp only [Act.put, sA_, sB_, sC_, i64_w, i32_w]; rfl
                     refine pure_ (i := 11) (N := some 197) (v := ?_) (a' := ?_) #[t_,t_,t_,t_,t_,t_,f_,t_,t_,t_,f_,t_,f_,f_,f_,f_,f_,f_,f_,f_,f_,f_,f_,f_,f_,f_,f_,f_,f_,f_] rfl rfl (any_of HT_.out (by kernel_rfl)) (fun _ _ _ h => h) (Or.inl ⟨by rfl, ?_⟩) ?_ ?_; rotate_left; intro w'; go_simp; with_reducible rfl; rotate_left; simp only [Act.put, sA_, sB_, sC_, i64_w, i32_w]; rfl
                     refine take_ (i := 6) (N := some 192) (v := ?_) (a' := ?_) #[t_,t_,t_,t_,t_,t_,t_,t_,t_,t_,f_,t_,f_,f_,f_,f_,f_,f_,f_,f_,f_,f_,f_,f_,f_,f_,f_,f_,f_,f_] rfl rfl (take_ofW HT_.out HW_.out (by kernel_rfl)) (fun _ _ _ h => h) (Or.inl ⟨by rfl, ?_⟩) hHeld ?_ ?_; rotate_left; rintro w' ⟨s0, s1, s2⟩; go_simp; with_reducible rfl; rotate_left; simp only [Act.put, sA_, sB_, sC_, i64_w, i32_w]; rfl
                     refine take_ (i := 10) (N := some 196) (v := ?_) (a' := ?_) #[t_,t_,t_,t_,t_,t_,t_,t_,t_,t_,t_,t_,f_,f_,f_,f_,f_,f_,f_,f_,f_,f_,f_,f_,f_,f_,f_,f_,f_,f_] rfl rfl (take_ofW HT_.out HW_.out (by kernel_rfl)) (fun _ _ _ h => h) (Or.inl ⟨by rfl, ?_⟩) hHeld ?_ ?_; rotate_left; rintro w' ⟨s0, s1, s2⟩; go_simp; with_reducible rfl; rotate_left; simp only [Act.put, sA_, sB_, sC_, i64_w, i32_w]; rfl
                     refine pure_ (i := 12) (N := some 198) (v := ?_) (a' := ?_) #[t_,t_,t_,t_,t_,t_,t_,t_,t_,t_,t_,t_,t_,f_,f_,f_,f_,f_,f_,f_,f_,f_,f_,f_,f_,f_,f_,f_,f_,f_] rfl rfl (any_of HT_.out (by kernel_rfl)) (fun _ _ _ h => h) (Or.inl ⟨by rfl, ?_⟩) ?_ ?_; rotate_left; intro w'; go_simp; with_reducible rfl; rotate_left; simp only [Act.put, sA_, sB_, sC_, i64_w, i32_w]; rfl
                     refine pure_ (i := 13) (N := some 199) (v := ?_) (a' := ?_) #[t_,t_,t_,t_,t_,t_,t_,t_,t_,t_,t_,t_,t_,t_,f_,f_,f_,f_,f_,f_,f_,f_,f_,f_,f_,f_,f_,f_,f_,f_] rfl rfl (any_of HT_.out (by kernel_rfl)) (fun _ _ _ h => h) (Or.inl ⟨by rfl, ?_⟩) ?_ ?_; rotate_left; intro w'; go_simp; with_reducible rfl; rotate_left; simp only [Act.put, sA_, sB_, sC_, i64_w, i32_w]; rfl
                     refine pure_ (i := 14) (N := some 200) (v := ?_) (a' := ?_) #[t_,t_,t_,t_,t_,t_,t_,t_,t_,t_,t_,t_,t_,t_,t_,f_,f_,f_,f_,f_,f_,f_,f_,f_,f_,f_,f_,f_,f_,f_] rfl rfl (any_of HT_.out (by kernel_rfl)) (fun _ _ _ h => h) (Or.inl ⟨by rfl, ?_⟩) ?_ ?_; rotate_left; intro w'; go_simp; with_reducible rfl; rotate_left; simp only [Act.put, sA_, sB_, sC_, i64_w, i32_w]; rfl
                     refine pure_ (i := 15) (N := some 201) (v := undef) (a' := ?_) #[t_,t_,t_,t_,t_,t_,t_,t_,t_,t_,t_,t_,t_,t_,t_,t_,f_,f_,f_,f_,f_,f_,f_,f_,f_,f_,f_,f_,f_,f_] rfl rfl (any_of HT_.out (by kernel_rfl)) (fun _ _ _ h => h) (Or.inr ⟨by rfl, rfl⟩) ?_ ?_
                     rotate_left
                     · simp only [Act.put, sA_, sB_, sC_, i64_w, i32_w]
                       rfl
                     refine pure_ (i := 16) (N := some 202) (v := undef) (a' := ?_) #[t_,t_,t_,t_,t_,t_,t_,t_,t_,t_,t_,t_,t_,t_,t_,t_,t_,f_,f_,f_,f_,f_,f_,f_,f_,f_,f_,f_,f_,f_] rfl rfl (any_of HT_.out (by kernel_rfl)) (fun _ _ _ h => h) (Or.inr ⟨by rfl, rfl⟩) ?_ ?_
                     rotate_left
                     · simp only [Act.put, sA_, sB_, sC_, i64_w, i32_w]
                       rfl
                     refine pure_ (i := 17) (N := some 203) (v := undef) (a' := ?_) #[t_,t_,t_,t_,t_,t_,t_,t_,t_,t_,t_,t_,t_,t_,t_,t_,t_,t_,f_,f_,f_,f_,f_,f_,f_,f_,f_,f_,f_,f_] rfl rfl (any_of HT_.out (by kernel_rfl)) (fun _ _ _ h => h) (Or.inr ⟨by rfl, rfl⟩) ?_ ?_
                     rotate_left
                     · simp only [Act.put, sA_, sB_, sC_, i64_w, i32_w]
                       rfl
                     refine pure_ (i := 18) (N := some 204) (v := undef) (a' := ?_) #[t_,t_,t_,t_,t_,t_,t_,t_,t_,t_,t_,t_,t_,t_,t_,t_,t_,t_,t_,f_,f_,f_,f_,f_,f_,f_,f_,f_,f_,f_] rfl rfl (any_of HT_.out (by kernel_rfl)) (fun _ _ _ h => h) (Or.inr ⟨by rfl, rfl⟩) ?_ ?_
                     rotate_left
                     · simp only [Act.put, sA_, sB_, sC_, i64_w, i32_w]
                       rfl
                     refine pure_ (i := 19) (N := some 205) (v := undef) (a' := ?_) #[t_,t_,t_,t_,t_,t_,t_,t_,t_,t_,t_,t_,t_,t_,t_,t_,t_,t_,t_,t_,f_,f_,f_,f_,f_,f_,f_,f_,f_,f_] rfl rfl (any_of HT_.out (by kernel_rfl)) (fun _ _ _ h => h) (Or.inr ⟨by rfl, rfl⟩) ?_ ?_
                     rotate_left
                     · simp only [Act.put, sA_, sB_, sC_, i64_w, i32_w]
                       rfl
                     refine pure_ (i := 20) (N := some 206) (v := undef) (a' := ?_) #[t_,t_,t_,t_,t_,t_,t_,t_,t_,t_,t_,t_,t_,t_,t_,t_,t_,t_,t_,t_,t_,f_,f_,f_,f_,f_,f_,f_,f_,f_] rfl rfl (any_of HT_.out (by kernel_rfl)) (fun _ _ _ h => h) (Or.inr ⟨by rfl, rfl⟩) ?_ ?_
                     rotate_left
                     · simp only [Act.put, sA_, sB_, sC_, i64_w, i32_w]
                       rfl
                     refine pure_ (i := 21) (N := some 207) (v := undef) (a' := ?_) #[t_,t_,t_,t_,t_,t_,t_,t_,t_,t_,t_,t_,t_,t_,t_,t_,t_,t_,t_,t_,t_,t_,f_,f_,f_,f_,f_,f_,f_,f_] rfl rfl (any_of HT_.out (by kernel_rfl)) (fun _ _ _ h => h) (Or.inr ⟨by rfl, rfl⟩) ?_ ?_
                     rotate_left
                     · simp only [Act.put, sA_, sB_, sC_, i64_w, i32_w]
                       rfl
                     refine pure_ (i := 22) (N := some 208) (v := undef) (a' := ?_) #[t_,t_,t_,t_,t_,t_,t_,t_,t_,t_,t_,t_,t_,t_,t_,t_,t_,t_,t_,t_,t_,t_,t_,f_,f_,f_,f_,f_,f_,f_] rfl rfl (any_of HT_.out (by kernel_rfl)) (fun _ _ _ h => h) (Or.inr ⟨by rfl, rfl⟩) ?_ ?_
                     rotate_left
                     · simp only [Act.put, sA_, sB_, sC_, i64_w, i32_w]
                       rfl
                     refine pure_ (i := 23) (N := some 209) (v := undef) (a' := ?_) #[t_,t_,t_,t_,t_,t_,t_,t_,t_,t_,t_,t_,t_,t_,t_,t_,t_,t_,t_,t_,t_,t_,t_,t_,f_,f_,f_,f_,f_,f_] rfl rfl (any_of HT_.out (by kernel_rfl)) (fun _ _ _ h => h) (Or.inr ⟨by rfl, rfl⟩) ?_ ?_
                     rotate_left
                     · simp only [Act.put, sA_, sB_, sC_, i64_w, i32_w]
                       rfl
                     refine pure_ (i := 24) (N := some 210) (v := undef) (a' := ?_) #[t_,t_,t_,t_,t_,t_,t_,t_,t_,t_,t_,t_,t_,t_,t_,t_,t_,t_,t_,t_,t_,t_,t_,t_,t_,f_,f_,f_,f_,f_] rfl rfl (any_of HT_.out (by kernel_rfl)) (fun _ _ _ h => h) (Or.inr ⟨by rfl, rfl⟩) ?_ ?_
                     rotate_left
                     · simp only [Act.put, sA_, sB_, sC_, i64_w, i32_w]
                       rfl
                     refine pure_ (i := 25) (N := some 211) (v := undef) (a' := ?_) #[t_,t_,t_,t_,t_,t_,t_,t_,t_,t_,t_,t_,t_,t_,t_,t_,t_,t_,t_,t_,t_,t_,t_,t_,t_,t_,f_,f_,f_,f_] rfl rfl (any_of HT_.out (by kernel_rfl)) (fun _ _ _ h => h) (Or.inr ⟨by rfl, rfl⟩) ?_ ?_
                     rotate_left
                     · simp only [Act.put, sA_, sB_, sC_, i64_w, i32_w]
                       rfl
                     refine pure_ (i := 26) (N := some 212) (v := undef) (a' := ?_) #[t_,t_,t_,t_,t_,t_,t_,t_,t_,t_,t_,t_,t_,t_,t_,t_,t_,t_,t_,t_,t_,t_,t_,t_,t_,t_,t_,f_,f_,f_] rfl rfl (any_of HT_.out (by kernel_rfl)) (fun _ _ _ h => h) (Or.inr ⟨by rfl, rfl⟩) ?_ ?_
                     rotate_left
                     · simp only [Act.put, sA_, sB_, sC_, i64_w, i32_w]
                       rfl
                     refine pure_ (i := 27) (N := some 213) (v := ?_) (a' := ?_) #[t_,t_,t_,t_,t_,t_,t_,t_,t_,t_,t_,t_,t_,t_,t_,t_,t_,t_,t_,t_,t_,t_,t_,t_,t_,t_,t_,t_,f_,f_] rfl rfl (any_of HT_.out (by kernel_rfl)) (fun _ _ _ h => h) (Or.inl ⟨by rfl, ?_⟩) ?_ ?_; rotate_left; intro w'; go_simp; with_reducible rfl; rotate_left; simp only [Act.put, sA_, sB_, sC_, i64_w, i32_w]; rfl
                     refine pure_ (i := 28) (N := some 214) (v := ?_) (a' := ?_) #[t_,t_,t_,t_,t_,t_,t_,t_,t_,t_,t_,t_,t_,t_,t_,t_,t_,t_,t_,t_,t_,t_,t_,t_,t_,t_,t_,t_,t_,f_] rfl rfl (any_of HT_.out (by kernel_rfl)) (fun _ _ _ h => h) (Or.inl ⟨by rfl, ?_⟩) ?_ ?_; rotate_left; intro w'; go_simp; with_reducible rfl; rotate_left; simp only [Act.put, sA_, sB_, sC_, i64_w, i32_w]; rfl
                     refine pure_ (i := 29) (N := some 14) (v := ?_) (a' := ?_) #[t_,t_,t_,t_,t_,t_,t_,t_,t_,t_,t_,t_,t_,t_,t_,t_,t_,t_,t_,t_,t_,t_,t_,t_,t_,t_,t_,t_,t_,t_] rfl rfl (any_of HT_.out (by kernel_rfl)) (fun _ _ _ h => h) (Or.inl ⟨by rfl, ?_⟩) ?_ ?_; rotate_left; intro w'; go_simp; with_reducible rfl; rotate_left; simp only [Act.put, sA_, sB_, sC_, i64_w, i32_w]; rfl
                     refine done_ (done_of HT_.out (by kernel_rfl)) ?_
                     try go_wp2
                     go_roundg k5
                     case measure => have := HJ3.out; have := HK2.out; have := HJ22.out; have := HJ26.out; have := HK5.out; omega
                     case rel => exact ⟨(true), (wrap64 (x15_5 + 1)), (by first | rfl | (simp; done) | (simp [*]; done)), (by first | rfl | (simp; done) | (simp [*]; done)), H', ⟨by have := HJ3.out; have := HK2.out; have := HJ22.out; have := HJ26.out; have := HK5.out; omega⟩, ⟨by (with_reducible repeat (first | apply Kd.R_alloc | apply Kd.R_drewN | apply Kd.R_drew)); exact HO_6.out⟩, ⟨by (with_reducible repeat (first | apply Kd.R_alloc | apply Kd.R_drewN | apply Kd.R_drew)); exact HO_10.out⟩, ⟨by (with_reducible repeat (first | refine blk_drewN ?_ _ | refine blk_drew ?_ | refine blk_alloc ?_ _)); exact BK182.out⟩, ⟨by repeat (first | (with_reducible first | exact HB.out | apply below_alloc | apply pw_below_drewN | apply below_drew1 | refine below_set ?_ GE182.out) | exact HB.out)⟩⟩
                  rw [if_neg c52] at H
                  have c52b0 : decide ((wrap64 ((rd t189 x15_5) + (wrap64 ((wrap64 (Int.tdiv (wrap64 (((rd_T34 x6_3 x15_5).f0) + 63)) 64)) * 64)))) ≤ ((rd_T34 x6_3 x12_2).f1)) = false := decide_eq_false c52
                  clear c52
                  as_aux_lemma =>
                   have H' := Aside0.mk H
                   clear H
                   have p200 : 0 ≤ (x15_5 : Int) := of_decide_eq_true (by first | (with_reducible assumption) | assumption)
                   have q200 : x15_5 < (x6_3.length : Int) := of_decide_eq_true (by first | (with_reducible assumption) | assumption)
                   obtain ⟨ad200, e200, hx200_0, hx200_1⟩ := at_T34 (Kd.R_reads' HO_6.out).2.2 x15_5 p200 q200
                   obtain rfl : ad193 = ad200 := (by injection e200)
                   replace p200 := eq_true p200
                   replace q200 := eq_true q200
                   try go_wp2
                   have n0_ := Aside0.mk (Kd.R_drew HO_6.out)
                   have n1_ := Aside0.mk (Kd.R_drew HO_10.out)
                   have n2_ := Aside0.mk (blk_drew BK182.out)
                   have n3_ := Aside0.mk (below_drew1 HB.out)
                   clear HO_6
                   clear HO_10
                   clear BK182
                   clear HB
                   have HO_6 := n0_
                   have HO_10 := n1_
                   have BK182 := n2_
                   have HB := n3_
                   clear n0_ n1_ n2_ n3_
                   have p201 : 0 ≤ (x12_2 : Int) := of_decide_eq_true (by first | (with_reducible assumption) | assumption)
                   have q201 : x12_2 < (t189.length : Int) := of_decide_eq_true (by first | (with_reducible assumption) | assumption)
                   obtain ⟨ad201, e201, hx201_0⟩ := Kd.at_int (Kd.R_reads' HO_10.out).2.2 x12_2 p201 q201
                   cases e201
                   replace p201 := eq_true p201
                   replace q201 := eq_true q201
                   have p202 : 0 ≤ (x15_5 : Int) := of_decide_eq_true (by first | (with_reducible assumption) | assumption)
                   have q202 : x15_5 < (t189.length : Int) := of_decide_eq_true (by first | (with_reducible assumption) | assumption)
                   obtain ⟨ad202, e202, hx202_0⟩ := Kd.at_int (Kd.R_reads' HO_10.out).2.2 x15_5 p202 q202
                   obtain rfl : ad201 = ad202 := (by injection e202)
                   replace p202 := eq_true p202
                   replace q202 := eq_true q202
                   refine start_ (n := 24) (S := fun w' => w'.cell? (ad201.add (x12_2).toNat) = some (.int .i64 (rd t189 x12_2)) ∧ w'.cell? (ad201.add (x15_5).toNat) = some (.int .i64 (rd t189 x15_5))) (ds := []) #[f_,f_,f_,f_,f_,f_,f_,f_,f_,f_,f_,f_,f_,f_,f_,f_,f_,f_,f_,f_,f_,f_,f_,f_] (by kernel_rfl) rfl rfl ⟨hx201_0, hx202_0⟩ (fun hHeld => ?_); refine with_tabW flyleaflaw13_PlaceApart.tab25 flyleaflaw13_PlaceApart.bits25 (fun HT_ HW_ => ?_)
                   generalize wr.drew = w55 at HO_6 HO_10 BK182 HB hx201_0 hx202_0 hHeld ⊢
                   refine pure_ (i := 0) (N := some 162) (v := ?_) (a' := ?_) #[t_,f_,f_,f_,f_,f_,f_,f_,f_,f_,f_,f_,f_,f_,f_,f_,f_,f_,f_,f_,f_,f_,f_,f_] rfl rfl (any_of HT_.out (by kernel_rfl)) (fun _ _ _ h => h) (Or.inl ⟨by rfl, ?_⟩) ?_ ?_; rotate_left; intro w'; go_simp; with_reducible rfl; rotate_left; simp only [Act.put, sA_, sB_, sC_, i64_w, i32_w]; rfl
                   refine pure_ (i := 1) (N := some 163) (v := ?_) (a' := ?_) #[t_,t_,f_,f_,f_,f_,f_,f_,f_,f_,f_,f_,f_,f_,f_,f_,f_,f_,f_,f_,f_,f_,f_,f_] rfl rfl (any_of HT_.out (by kernel_rfl)) (fun _ _ _ h => h) (Or.inl ⟨by rfl, ?_⟩) ?_ ?_; rotate_left; intro w'; go_simp; with_reducible rfl; rotate_left; simp only [Act.put, sA_, sB_, sC_, i64_w, i32_w]; rfl
                   refine pure_ (i := 2) (N := some 164) (v := ?_) (a' := ?_) #[t_,t_,t_,f_,f_,f_,f_,f_,f_,f_,f_,f_,f_,f_,f_,f_,f_,f_,f_,f_,f_,f_,f_,f_] rfl rfl (any_of HT_.out (by kernel_rfl)) (fun _ _ _ h => h) (Or.inl ⟨by rfl, ?_⟩) ?_ ?_; rotate_left; intro w'; go_simp; with_reducible rfl; rotate_left; simp only [Act.put, sA_, sB_, sC_, i64_w, i32_w]; rfl
                   refine pure_ (i := 4) (N := some 166) (v := ?_) (a' := ?_) #[t_,t_,t_,f_,t_,f_,f_,f_,f_,f_,f_,f_,f_,f_,f_,f_,f_,f_,f_,f_,f_,f_,f_,f_] rfl rfl (any_of HT_.out (by kernel_rfl)) (fun _ _ _ h => h) (Or.inl ⟨by rfl, ?_⟩) ?_ ?_; rotate_left; intro w'; go_simp; with_reducible rfl; rotate_left; simp only [Act.put, sA_, sB_, sC_, i64_w, i32_w]; rfl
                   refine pure_ (i := 5) (N := some 167) (v := ?_) (a' := ?_) #[t_,t_,t_,f_,t_,t_,f_,f_,f_,f_,f_,f_,f_,f_,f_,f_,f_,f_,f_,f_,f_,f_,f_,f_] rfl rfl (any_of HT_.out (by kernel_rfl)) (fun _ _ _ h => h) (Or.inl ⟨by rfl, ?_⟩) ?_ ?_; rotate_left; intro w'; go_simp; with_reducible rfl; rotate_left; simp only [Act.put, sA_, sB_, sC_, i64_w, i32_w]; rfl
                   refine pure_ (i := 6) (N := some 168) (v := ?_) (a' := ?_) #[t_,t_,t_,f_,t_,t_,t_,f_,f_,f_,f_,f_,f_,f_,f_,f_,f_,f_,f_,f_,f_,f_,f_,f_] rfl rfl (any_of HT_.out (by kernel_rfl)) (fun _ _ _ h => h) (Or.inl ⟨by rfl, ?_⟩) ?_ ?_; rotate_left; intro w'; go_simp; with_reducible rfl; rotate_left; simp only [Act.put, sA_, sB_, sC_, i64_w, i32_w]; rfl
                   refine pure_ (i := 8) (N := some 170) (v := ?_) (a' := ?_) #[t_,t_,t_,f_,t_,t_,t_,f_,t_,f_,f_,f_,f_,f_,f_,f_,f_,f_,f_,f_,f_,f_,f_,f_] rfl rfl (any_of HT_.out (by kernel_rfl)) (fun _ _ _ h => h) (Or.inl ⟨by rfl, ?_⟩) ?_ ?_; rotate_left; intro w'; go_simp; with_reducible rfl; rotate_left; simp only [Act.put, sA_, sB_, sC_, i64_w, i32_w]; rfl
                   refine take_ (i := 3) (N := some 165) (v := ?_) (a' := ?_) #[t_,t_,t_,t_,t_,t_,t_,f_,t_,f_,f_,f_,f_,f_,f_,f_,f_,f_,f_,f_,f_,f_,f_,f_] rfl rfl (take_ofW HT_.out HW_.out (by kernel_rfl)) (fun _ _ _ h => h) (Or.inl ⟨by rfl, ?_⟩) hHeld ?_ ?_; rotate_left; rintro w' ⟨s0, s1⟩; go_simp; with_reducible rfl; rotate_left; simp only [Act.put, sA_, sB_, sC_, i64_w, i32_w]; rfl
                   refine take_ (i := 7) (N := some 169) (v := ?_) (a' := ?_) #[t_,t_,t_,t_,t_,t_,t_,t_,t_,f_,f_,f_,f_,f_,f_,f_,f_,f_,f_,f_,f_,f_,f_,f_] rfl rfl (take_ofW HT_.out HW_.out (by kernel_rfl)) (fun _ _ _ h => h) (Or.inl ⟨by rfl, ?_⟩) hHeld ?_ ?_; rotate_left; rintro w' ⟨s0, s1⟩; go_simp; with_reducible rfl; rotate_left; simp only [Act.put, sA_, sB_, sC_, i64_w, i32_w]; rfl
                   refine pure_ (i := 9) (N := some 171) (v := ?_) (a' := ?_) #[t_,t_,t_,t_,t_,t_,t_,t_,t_,t_,f_,f_,f_,f_,f_,f_,f_,f_,f_,f_,f_,f_,f_,f_] rfl rfl (any_of HT_.out (by kernel_rfl)) (fun _ _ _ h => h) (Or.inl ⟨by rfl, ?_⟩) ?_ ?_; rotate_left; intro w'; go_simp; with_reducible rfl; rotate_left; simp only [Act.put, sA_, sB_, sC_, i64_w, i32_w]; rfl
                   refine pure_ (i := 10) (N := some 172) (v := ?_) (a' := ?_) #[t_,t_,t_,t_,t_,t_,t_,t_,t_,t_,t_,f_,f_,f_,f_,f_,f_,f_,f_,f_,f_,f_,f_,f_] rfl rfl (any_of HT_.out (by kernel_rfl)) (fun _ _ _ h => h) (Or.inl ⟨by rfl, ?_⟩) ?_ ?_; rotate_left; intro w'; go_simp; with_reducible rfl; rotate_left; simp only [Act.put, sA_, sB_, sC_, i64_w, i32_w]; rfl
                   refine pure_ (i := 11) (N := some 173) (v := ?_) (a' := ?_) #[t_,t_,t_,t_,t_,t_,t_,t_,t_,t_,t_,t_,f_,f_,f_,f_,f_,f_,f_,f_,f_,f_,f_,f_] rfl rfl (any_of HT_.out (by kernel_rfl)) (fun _ _ _ h => h) (Or.inl ⟨by rfl, ?_⟩) ?_ ?_; rotate_left; intro w'; go_simp; with_reducible rfl; rotate_left; simp only [Act.put, sA_, sB_, sC_, i64_w, i32_w]; rfl
                   refine pure_ (i := 12) (N := some 174) (v := undef) (a' := ?_) #[t_,t_,t_,t_,t_,t_,t_,t_,t_,t_,t_,t_,t_,f_,f_,f_,f_,f_,f_,f_,f_,f_,f_,f_] rfl rfl (any_of HT_.out (by kernel_rfl)) (fun _ _ _ h => h) (Or.inr ⟨by rfl, rfl⟩) ?_ ?_
                   rotate_left
                   · simp only [Act.put, sA_, sB_, sC_, i64_w, i32_w]
                     rfl
                   refine pure_ (i := 13) (N := some 175) (v := undef) (a' := ?_) #[t_,t_,t_,t_,t_,t_,t_,t_,t_,t_,t_,t_,t_,t_,f_,f_,f_,f_,f_,f_,f_,f_,f_,f_] rfl rfl (any_of HT_.out (by kernel_rfl)) (fun _ _ _ h => h) (Or.inr ⟨by rfl, rfl⟩) ?_ ?_
                   rotate_left
                   · simp only [Act.put, sA_, sB_, sC_, i64_w, i32_w]
                     rfl
                   refine pure_ (i := 14) (N := some 176) (v := undef) (a' := ?_) #[t_,t_,t_,t_,t_,t_,t_,t_,t_,t_,t_,t_,t_,t_,t_,f_,f_,f_,f_,f_,f_,f_,f_,f_] rfl rfl (any_of HT_.out (by kernel_rfl)) (fun _ _ _ h => h) (Or.inr ⟨by rfl, rfl⟩) ?_ ?_
                   rotate_left
                   · simp only [Act.put, sA_, sB_, sC_, i64_w, i32_w]
                     rfl
                   refine pure_ (i := 15) (N := some 177) (v := undef) (a' := ?_) #[t_,t_,t_,t_,t_,t_,t_,t_,t_,t_,t_,t_,t_,t_,t_,t_,f_,f_,f_,f_,f_,f_,f_,f_] rfl rfl (any_of HT_.out (by kernel_rfl)) (fun _ _ _ h => h) (Or.inr ⟨by rfl, rfl⟩) ?_ ?_
                   rotate_left
                   · simp only [Act.put, sA_, sB_, sC_, i64_w, i32_w]
                     rfl
                   refine pure_ (i := 16) (N := some 178) (v := undef) (a' := ?_) #[t_,t_,t_,t_,t_,t_,t_,t_,t_,t_,t_,t_,t_,t_,t_,t_,t_,f_,f_,f_,f_,f_,f_,f_] rfl rfl (any_of HT_.out (by kernel_rfl)) (fun _ _ _ h => h) (Or.inr ⟨by rfl, rfl⟩) ?_ ?_
                   rotate_left
                   · simp only [Act.put, sA_, sB_, sC_, i64_w, i32_w]
                     rfl
                   refine pure_ (i := 17) (N := some 179) (v := undef) (a' := ?_) #[t_,t_,t_,t_,t_,t_,t_,t_,t_,t_,t_,t_,t_,t_,t_,t_,t_,t_,f_,f_,f_,f_,f_,f_] rfl rfl (any_of HT_.out (by kernel_rfl)) (fun _ _ _ h => h) (Or.inr ⟨by rfl, rfl⟩) ?_ ?_
                   rotate_left
                   · simp only [Act.put, sA_, sB_, sC_, i64_w, i32_w]
                     rfl
                   refine pure_ (i := 18) (N := some 180) (v := undef) (a' := ?_) #[t_,t_,t_,t_,t_,t_,t_,t_,t_,t_,t_,t_,t_,t_,t_,t_,t_,t_,t_,f_,f_,f_,f_,f_] rfl rfl (any_of HT_.out (by kernel_rfl)) (fun _ _ _ h => h) (Or.inr ⟨by rfl, rfl⟩) ?_ ?_
                   rotate_left
                   · simp only [Act.put, sA_, sB_, sC_, i64_w, i32_w]
                     rfl
                   refine pure_ (i := 19) (N := some 181) (v := undef) (a' := ?_) #[t_,t_,t_,t_,t_,t_,t_,t_,t_,t_,t_,t_,t_,t_,t_,t_,t_,t_,t_,t_,f_,f_,f_,f_] rfl rfl (any_of HT_.out (by kernel_rfl)) (fun _ _ _ h => h) (Or.inr ⟨by rfl, rfl⟩) ?_ ?_
                   rotate_left
                   · simp only [Act.put, sA_, sB_, sC_, i64_w, i32_w]
                     rfl
                   refine pure_ (i := 20) (N := some 182) (v := undef) (a' := ?_) #[t_,t_,t_,t_,t_,t_,t_,t_,t_,t_,t_,t_,t_,t_,t_,t_,t_,t_,t_,t_,t_,f_,f_,f_] rfl rfl (any_of HT_.out (by kernel_rfl)) (fun _ _ _ h => h) (Or.inr ⟨by rfl, rfl⟩) ?_ ?_
                   rotate_left
                   · simp only [Act.put, sA_, sB_, sC_, i64_w, i32_w]
                     rfl
                   refine pure_ (i := 21) (N := some 183) (v := undef) (a' := ?_) #[t_,t_,t_,t_,t_,t_,t_,t_,t_,t_,t_,t_,t_,t_,t_,t_,t_,t_,t_,t_,t_,t_,f_,f_] rfl rfl (any_of HT_.out (by kernel_rfl)) (fun _ _ _ h => h) (Or.inr ⟨by rfl, rfl⟩) ?_ ?_
                   rotate_left
                   · simp only [Act.put, sA_, sB_, sC_, i64_w, i32_w]
                     rfl
                   refine pure_ (i := 22) (N := some 184) (v := undef) (a' := ?_) #[t_,t_,t_,t_,t_,t_,t_,t_,t_,t_,t_,t_,t_,t_,t_,t_,t_,t_,t_,t_,t_,t_,t_,f_] rfl rfl (any_of HT_.out (by kernel_rfl)) (fun _ _ _ h => h) (Or.inr ⟨by rfl, rfl⟩) ?_ ?_
                   rotate_left
                   · simp only [Act.put, sA_, sB_, sC_, i64_w, i32_w]
                     rfl
                   refine pure_ (i := 23) (N := some 185) (v := ?_) (a' := ?_) #[t_,t_,t_,t_,t_,t_,t_,t_,t_,t_,t_,t_,t_,t_,t_,t_,t_,t_,t_,t_,t_,t_,t_,t_] rfl rfl (any_of HT_.out (by kernel_rfl)) (fun _ _ _ h => h) (Or.inl ⟨by rfl, ?_⟩) ?_ ?_; rotate_left; intro w'; go_simp; with_reducible rfl; rotate_left; simp only [Act.put, sA_, sB_, sC_, i64_w, i32_w]; rfl
                   refine done_ (done_of HT_.out (by kernel_rfl)) ?_
                   try go_wp2
                   have n0_ := Aside0.mk (Kd.R_drew HO_6.out)
                   have n1_ := Aside0.mk (Kd.R_drew HO_10.out)
                   have n2_ := Aside0.mk (blk_drew BK182.out)
                   have n3_ := Aside0.mk (below_drew1 HB.out)
                   clear HO_6
                   clear HO_10
                   clear BK182
                   clear HB
                   have HO_6 := n0_
                   have HO_10 := n1_
                   have BK182 := n2_
                   have HB := n3_
                   clear n0_ n1_ n2_ n3_
                   have p209 : 0 ≤ (x12_2 : Int) := of_decide_eq_true (by first | (with_reducible assumption) | assumption)
                   have q209 : x12_2 < (x6_3.length : Int) := of_decide_eq_true (by first | (with_reducible assumption) | assumption)
                   obtain ⟨ad209, e209, hx209_0, hx209_1⟩ := at_T34 (Kd.R_reads' HO_6.out).2.2 x12_2 p209 q209
                   obtain rfl : ad193 = ad209 := (by injection e209)
                   replace p209 := eq_true p209
                   replace q209 := eq_true q209
                   have p210 : 0 ≤ (x15_5 : Int) := of_decide_eq_true (by first | (with_reducible assumption) | assumption)
                   have q210 : x15_5 < (t189.length : Int) := of_decide_eq_true (by first | (with_reducible assumption) | assumption)
                   obtain ⟨ad210, e210, hx210_0⟩ := Kd.at_int (Kd.R_reads' HO_10.out).2.2 x15_5 p210 q210
                   obtain rfl : ad201 = ad210 := (by injection e210)
                   replace p210 := eq_true p210
                   replace q210 := eq_true q210
                   have p211 : 0 ≤ (x15_5 : Int) := of_decide_eq_true (by first | (with_reducible assumption) | assumption)
                   have q211 : x15_5 < (t189.length : Int) := of_decide_eq_true (by first | (with_reducible assumption) | assumption)
                   obtain ⟨ad211, e211, hx211_0⟩ := Kd.at_int (Kd.R_reads' HO_10.out).2.2 x15_5 p211 q211
                   obtain rfl : ad201 = ad211 := (by injection e211)
                   replace p211 := eq_true p211
                   replace q211 := eq_true q211
                   have p212 : 0 ≤ (x12_2 : Int) := of_decide_eq_true (by first | (with_reducible assumption) | assumption)
                   have q212 : x12_2 < (x6_3.length : Int) := of_decide_eq_true (by first | (with_reducible assumption) | assumption)
                   obtain ⟨ad212, e212, hx212_0, hx212_1⟩ := at_T34 (Kd.R_reads' HO_6.out).2.2 x12_2 p212 q212
                   obtain rfl : ad193 = ad212 := (by injection e212)
                   replace p212 := eq_true p212
                   replace q212 := eq_true q212
                   refine start_ (n := 30) (S := fun w' => w'.cell? (ad193.add ((x12_2).toNat * 2)) = some (.int .i64 ((rd_T34 x6_3 x12_2).f0)) ∧ w'.cell? ⟨(ad193.add ((x12_2).toNat * 2)).block, (ad193.add ((x12_2).toNat * 2)).off + 1, none⟩ = some (.int .i64 ((rd_T34 x6_3 x12_2).f1)) ∧ w'.cell? (ad201.add (x15_5).toNat) = some (.int .i64 (rd t189 x15_5)) ∧ w'.cell? (ad201.add (x15_5).toNat) = some (.int .i64 (rd t189 x15_5)) ∧ w'.cell? (ad193.add ((x12_2).toNat * 2)) = some (.int .i64 ((rd_T34 x6_3 x12_2).f0)) ∧ w'.cell? ⟨(ad193.add ((x12_2).toNat * 2)).block, (ad193.add ((x12_2).toNat * 2)).off + 1, none⟩ = some (.int .i64 ((rd_T34 x6_3 x12_2).f1))) (ds := []) #[f_,f_,f_,f_,f_,f_,f_,f_,f_,f_,f_,f_,f_,f_,f_,f_,f_,f_,f_,f_,f_,f_,f_,f_,f_,f_,f_,f_,f_,f_] (by kernel_rfl) rfl rfl ⟨hx209_0, hx209_1, hx210_0, hx211_0, hx212_0, hx212_1⟩ (fun hHeld => ?_); refine with_tabW flyleaflaw13_PlaceApart.tab27 flyleaflaw13_PlaceApart.bits27 (fun HT_ HW_ => ?_)
                   generalize w55.drew = w56 at HO_6 HO_10 BK182 HB hx209_0 hx209_1 hx210_0 hx211_0 hx212_0 hx212_1 hHeld ⊢
                   refine pure_ (i := 0) (N := some 186) (v := ?_) (a' := ?_) #[t_,f_,f_,f_,f_,f_,f_,f_,f_,f_,f_,f_,f_,f_,f_,f_,f_,f_,f_,f_,f_,f_,f_,f_,f_,f_,f_,f_,f_,f_] rfl rfl (any_of HT_.out (by kernel_rfl)) (fun _ _ _ h => h) (Or.inl ⟨by rfl, ?_⟩) ?_ ?_; rotate_left; intro w'; go_simp; with_reducible rfl; rotate_left; simp only [Act.put, sA_, sB_, sC_, i64_w, i32_w]; rfl
                   refine pure_ (i := 1) (N := some 187) (v := ?_) (a' := ?_) #[t_,t_,f_,f_,f_,f_,f_,f_,f_,f_,f_,f_,f_,f_,f_,f_,f_,f_,f_,f_,f_,f_,f_,f_,f_,f_,f_,f_,f_,f_] rfl rfl (any_of HT_.out (by kernel_rfl)) (fun _ _ _ h => h) (Or.inl ⟨by rfl, ?_⟩) ?_ ?_; rotate_left; intro w'; go_simp; with_reducible rfl; rotate_left; simp only [Act.put, sA_, sB_, sC_, i64_w, i32_w]; rfl
                   refine pure_ (i := 2) (N := some 188) (v := ?_) (a' := ?_) #[t_,t_,t_,f_,f_,f_,f_,f_,f_,f_,f_,f_,f_,f_,f_,f_,f_,f_,f_,f_,f_,f_,f_,f_,f_,f_,f_,f_,f_,f_] rfl rfl (any_of HT_.out (by kernel_rfl)) (fun _ _ _ h => h) (Or.inl ⟨by rfl, ?_⟩) ?_ ?_; rotate_left; intro w'; go_simp; with_reducible rfl; rotate_left; simp only [Act.put, sA_, sB_, sC_, i64_w, i32_w]; rfl
                   refine pure_ (i := 3) (N := some 189) (v := ?_) (a' := ?_) #[t_,t_,t_,t_,f_,f_,f_,f_,f_,f_,f_,f_,f_,f_,f_,f_,f_,f_,f_,f_,f_,f_,f_,f_,f_,f_,f_,f_,f_,f_] rfl rfl (any_of HT_.out (by kernel_rfl)) (fun _ _ _ h => h) (Or.inl ⟨by rfl, ?_⟩) ?_ ?_; rotate_left; intro w'; go_simp; with_reducible rfl; rotate_left; simp only [Act.put, sA_, sB_, sC_, i64_w, i32_w]; rfl
                   refine pure_ (i := 4) (N := some 190) (v := ?_) (a' := ?_) #[t_,t_,t_,t_,t_,f_,f_,f_,f_,f_,f_,f_,f_,f_,f_,f_,f_,f_,f_,f_,f_,f_,f_,f_,f_,f_,f_,f_,f_,f_] rfl rfl (any_of HT_.out (by kernel_rfl)) (fun _ _ _ h => h) (Or.inl ⟨by rfl, ?_⟩) ?_ ?_; rotate_left; intro w'; go_simp; with_reducible rfl; rotate_left; simp only [Act.put, sA_, sB_, sC_, i64_w, i32_w]; rfl
                   refine pure_ (i := 5) (N := some 191) (v := ?_) (a' := ?_) #[t_,t_,t_,t_,t_,t_,f_,f_,f_,f_,f_,f_,f_,f_,f_,f_,f_,f_,f_,f_,f_,f_,f_,f_,f_,f_,f_,f_,f_,f_] rfl rfl (any_of HT_.out (by kernel_rfl)) (fun _ _ _ h => h) (Or.inl ⟨by rfl, ?_⟩) ?_ ?_; rotate_left; intro w'; go_simp; with_reducible rfl; rotate_left; simp only [Act.put, sA_, sB_, sC_, i64_w, i32_w]; rfl
                   refine pure_ (i := 7) (N := some 193) (v := ?_) (a' := ?_) #[t_,t_,t_,t_,t_,t_,f_,t_,f_,f_,f_,f_,f_,f_,f_,f_,f_,f_,f_,f_,f_,f_,f_,f_,f_,f_,f_,f_,f_,f_] rfl rfl (any_of HT_.out (by kernel_rfl)) (fun _ _ _ h => h) (Or.inl ⟨by rfl, ?_⟩) ?_ ?_; rotate_left; intro w'; go_simp; with_reducible rfl; rotate_left; simp only [Act.put, sA_, sB_, sC_, i64_w, i32_w]; rfl
                   refine pure_ (i := 8) (N := some 194) (v := ?_) (a' := ?_) #[t_,t_,t_,t_,t_,t_,f_,t_,t_,f_,f_,f_,f_,f_,f_,f_,f_,f_,f_,f_,f_,f_,f_,f_,f_,f_,f_,f_,f_,f_] rfl rfl (any_of HT_.out (by kernel_rfl)) (fun _ _ _ h => h) (Or.inl ⟨by rfl, ?_⟩) ?_ ?_; rotate_left; intro w'; go_simp; with_reducible rfl; rotate_left; simp only [Act.put, sA_, sB_, sC_, i64_w, i32_w]; rfl
                   refine pure_ (i := 9) (N := some 195) (v := ?_) (a' := ?_) #[t_,t_,t_,t_,t_,t_,f_,t_,t_,t_,f_,f_,f_,f_,f_,f_,f_,f_,f_,f_,f_,f_,f_,f_,f_,f_,f_,f_,f_,f_] rfl rfl (any_of HT_.out (by kernel_rfl)) (fun _ _ _ h => h) (Or.inl ⟨by rfl, ?_⟩) ?_ ?_; rotate_left; intro w'; go_simp; with_reducible rfl; rotate_left; simp only [Act.put, sA_, sB_, sC_, i64_w, i32_w]; rfl
                   refine pure_ (i := 11) (N := some 197) (v := ?_) (a' := ?_) #[t_,t_,t_,t_,t_,t_,f_,t_,t_,t_,f_,t_,f_,f_,f_,f_,f_,f_,f_,f_,f_,f_,f_,f_,f_,f_,f_,f_,f_,f_] rfl rfl (any_of HT_.out (by kernel_rfl)) (fun _ _ _ h => h) (Or.inl ⟨by rfl, ?_⟩) ?_ ?_; rotate_left; intro w'; go_simp; with_reducible rfl; rotate_left; simp only [Act.put, sA_, sB_, sC_, i64_w, i32_w]; rfl
                   refine take_ (i := 6) (N := some 192) (v := ?_) (a' := ?_) #[t_,t_,t_,t_,t_,t_,t_,t_,t_,t_,f_,t_,f_,f_,f_,f_,f_,f_,f_,f_,f_,f_,f_,f_,f_,f_,f_,f_,f_,f_] rfl rfl (take_ofW HT_.out HW_.out (by kernel_rfl)) (fun _ _ _ h => h) (Or.inl ⟨by rfl, ?_⟩) hHeld ?_ ?_; rotate_left; rintro w' ⟨s0, s1, s2, s3, s4, s5⟩; go_simp; with_reducible rfl; rotate_left; simp only [Act.put, sA_, sB_, sC_, i64_w, i32_w]; rfl
                   refine take_ (i := 10) (N := some 196) (v := ?_) (a' := ?_) #[t_,t_,t_,t_,t_,t_,t_,t_,t_,t_,t_,t_,f_,f_,f_,f_,f_,f_,f_,f_,f_,f_,f_,f_,f_,f_,f_,f_,f_,f_] rfl rfl (take_ofW HT_.out HW_.out (by kernel_rfl)) (fun _ _ _ h => h) (Or.inl ⟨by rfl, ?_⟩) hHeld ?_ ?_; rotate_left; rintro w' ⟨s0, s1, s2, s3, s4, s5⟩; go_simp; with_reducible rfl; rotate_left; simp only [Act.put, sA_, sB_, sC_, i64_w, i32_w]; rfl
                   refine pure_ (i := 12) (N := some 198) (v := ?_) (a' := ?_) #[t_,t_,t_,t_,t_,t_,t_,t_,t_,t_,t_,t_,t_,f_,f_,f_,f_,f_,f_,f_,f_,f_,f_,f_,f_,f_,f_,f_,f_,f_] rfl rfl (any_of HT_.out (by kernel_rfl)) (fun _ _ _ h => h) (Or.inl ⟨by rfl, ?_⟩) ?_ ?_; rotate_left; intro w'; go_simp; with_reducible rfl; rotate_left; simp only [Act.put, sA_, sB_, sC_, i64_w, i32_w]; rfl
                   refine pure_ (i := 13) (N := some 199) (v := ?_) (a' := ?_) #[t_,t_,t_,t_,t_,t_,t_,t_,t_,t_,t_,t_,t_,t_,f_,f_,f_,f_,f_,f_,f_,f_,f_,f_,f_,f_,f_,f_,f_,f_] rfl rfl (any_of HT_.out (by kernel_rfl)) (fun _ _ _ h => h) (Or.inl ⟨by rfl, ?_⟩) ?_ ?_; rotate_left; intro w'; go_simp; with_reducible rfl; rotate_left; simp only [Act.put, sA_, sB_, sC_, i64_w, i32_w]; rfl
                   refine pure_ (i := 14) (N := some 200) (v := ?_) (a' := ?_) #[t_,t_,t_,t_,t_,t_,t_,t_,t_,t_,t_,t_,t_,t_,t_,f_,f_,f_,f_,f_,f_,f_,f_,f_,f_,f_,f_,f_,f_,f_] rfl rfl (any_of HT_.out (by kernel_rfl)) (fun _ _ _ h => h) (Or.inl ⟨by rfl, ?_⟩) ?_ ?_; rotate_left; intro w'; go_simp; with_reducible rfl; rotate_left; simp only [Act.put, sA_, sB_, sC_, i64_w, i32_w]; rfl
                   refine pure_ (i := 15) (N := some 201) (v := ?_) (a' := ?_) #[t_,t_,t_,t_,t_,t_,t_,t_,t_,t_,t_,t_,t_,t_,t_,t_,f_,f_,f_,f_,f_,f_,f_,f_,f_,f_,f_,f_,f_,f_] rfl rfl (any_of HT_.out (by kernel_rfl)) (fun _ _ _ h => h) (Or.inl ⟨by rfl, ?_⟩) ?_ ?_; rotate_left; intro w'; go_simp; with_reducible rfl; rotate_left; simp only [Act.put, sA_, sB_, sC_, i64_w, i32_w]; rfl
                   refine pure_ (i := 16) (N := some 202) (v := ?_) (a' := ?_) #[t_,t_,t_,t_,t_,t_,t_,t_,t_,t_,t_,t_,t_,t_,t_,t_,t_,f_,f_,f_,f_,f_,f_,f_,f_,f_,f_,f_,f_,f_] rfl rfl (any_of HT_.out (by kernel_rfl)) (fun _ _ _ h => h) (Or.inl ⟨by rfl, ?_⟩) ?_ ?_; rotate_left; intro w'; go_simp; with_reducible rfl; rotate_left; simp only [Act.put, sA_, sB_, sC_, i64_w, i32_w]; rfl
                   refine pure_ (i := 17) (N := some 203) (v := ?_) (a' := ?_) #[t_,t_,t_,t_,t_,t_,t_,t_,t_,t_,t_,t_,t_,t_,t_,t_,t_,t_,f_,f_,f_,f_,f_,f_,f_,f_,f_,f_,f_,f_] rfl rfl (any_of HT_.out (by kernel_rfl)) (fun _ _ _ h => h) (Or.inl ⟨by rfl, ?_⟩) ?_ ?_; rotate_left; intro w'; go_simp; with_reducible rfl; rotate_left; simp only [Act.put, sA_, sB_, sC_, i64_w, i32_w]; rfl
                   refine pure_ (i := 19) (N := some 205) (v := ?_) (a' := ?_) #[t_,t_,t_,t_,t_,t_,t_,t_,t_,t_,t_,t_,t_,t_,t_,t_,t_,t_,f_,t_,f_,f_,f_,f_,f_,f_,f_,f_,f_,f_] rfl rfl (any_of HT_.out (by kernel_rfl)) (fun _ _ _ h => h) (Or.inl ⟨by rfl, ?_⟩) ?_ ?_; rotate_left; intro w'; go_simp; with_reducible rfl; rotate_left; simp only [Act.put, sA_, sB_, sC_, i64_w, i32_w]; rfl
                   refine pure_ (i := 20) (N := some 206) (v := ?_) (a' := ?_) #[t_,t_,t_,t_,t_,t_,t_,t_,t_,t_,t_,t_,t_,t_,t_,t_,t_,t_,f_,t_,t_,f_,f_,f_,f_,f_,f_,f_,f_,f_] rfl rfl (any_of HT_.out (by kernel_rfl)) (fun _ _ _ h => h) (Or.inl ⟨by rfl, ?_⟩) ?_ ?_; rotate_left; intro w'; go_simp; with_reducible rfl; rotate_left; simp only [Act.put, sA_, sB_, sC_, i64_w, i32_w]; rfl
                   refine pure_ (i := 21) (N := some 207) (v := ?_) (a' := ?_) #[t_,t_,t_,t_,t_,t_,t_,t_,t_,t_,t_,t_,t_,t_,t_,t_,t_,t_,f_,t_,t_,t_,f_,f_,f_,f_,f_,f_,f_,f_] rfl rfl (any_of HT_.out (by kernel_rfl)) (fun _ _ _ h => h) (Or.inl ⟨by rfl, ?_⟩) ?_ ?_; rotate_left; intro w'; go_simp; with_reducible rfl; rotate_left; simp only [Act.put, sA_, sB_, sC_, i64_w, i32_w]; rfl
                   refine pure_ (i := 22) (N := some 208) (v := ?_) (a' := ?_) #[t_,t_,t_,t_,t_,t_,t_,t_,t_,t_,t_,t_,t_,t_,t_,t_,t_,t_,f_,t_,t_,t_,t_,f_,f_,f_,f_,f_,f_,f_] rfl rfl (any_of HT_.out (by kernel_rfl)) (fun _ _ _ h => h) (Or.inl ⟨by rfl, ?_⟩) ?_ ?_; rotate_left; intro w'; go_simp; with_reducible rfl; rotate_left; simp only [Act.put, sA_, sB_, sC_, i64_w, i32_w]; rfl
                   refine pure_ (i := 24) (N := some 210) (v := ?_) (a' := ?_) #[t_,t_,t_,t_,t_,t_,t_,t_,t_,t_,t_,t_,t_,t_,t_,t_,t_,t_,f_,t_,t_,t_,t_,f_,t_,f_,f_,f_,f_,f_] rfl rfl (any_of HT_.out (by kernel_rfl)) (fun _ _ _ h => h) (Or.inl ⟨by rfl, ?_⟩) ?_ ?_; rotate_left; intro w'; go_simp; with_reducible rfl; rotate_left; simp only [Act.put, sA_, sB_, sC_, i64_w, i32_w]; rfl
                   refine take_ (i := 18) (N := some 204) (v := ?_) (a' := ?_) #[t_,t_,t_,t_,t_,t_,t_,t_,t_,t_,t_,t_,t_,t_,t_,t_,t_,t_,t_,t_,t_,t_,t_,f_,t_,f_,f_,f_,f_,f_] rfl rfl (take_ofW HT_.out HW_.out (by kernel_rfl)) (fun _ _ _ h => h) (Or.inl ⟨by rfl, ?_⟩) hHeld ?_ ?_; rotate_left; rintro w' ⟨s0, s1, s2, s3, s4, s5⟩; go_simp; with_reducible rfl; rotate_left; simp only [Act.put, sA_, sB_, sC_, i64_w, i32_w]; rfl
                   refine take_ (i := 23) (N := some 209) (v := ?_) (a' := ?_) #[t_,t_,t_,t_,t_,t_,t_,t_,t_,t_,t_,t_,t_,t_,t_,t_,t_,t_,t_,t_,t_,t_,t_,t_,t_,f_,f_,f_,f_,f_] rfl rfl (take_ofW HT_.out HW_.out (by kernel_rfl)) (fun _ _ _ h => h) (Or.inl ⟨by rfl, ?_⟩) hHeld ?_ ?_; rotate_left; rintro w' ⟨s0, s1, s2, s3, s4, s5⟩; go_simp; with_reducible rfl; rotate_left; simp only [Act.put, sA_, sB_, sC_, i64_w, i32_w]; rfl
                   refine pure_ (i := 25) (N := some 211) (v := ?_) (a' := ?_) #[t_,t_,t_,t_,t_,t_,t_,t_,t_,t_,t_,t_,t_,t_,t_,t_,t_,t_,t_,t_,t_,t_,t_,t_,t_,t_,f_,f_,f_,f_] rfl rfl (any_of HT_.out (by kernel_rfl)) (fun _ _ _ h => h) (Or.inl ⟨by rfl, ?_⟩) ?_ ?_; rotate_left; intro w'; go_simp; with_reducible rfl; rotate_left; simp only [Act.put, sA_, sB_, sC_, i64_w, i32_w]; rfl
                   refine pure_ (i := 26) (N := some 212) (v := ?_) (a' := ?_) #[t_,t_,t_,t_,t_,t_,t_,t_,t_,t_,t_,t_,t_,t_,t_,t_,t_,t_,t_,t_,t_,t_,t_,t_,t_,t_,t_,f_,f_,f_] rfl rfl (any_of HT_.out (by kernel_rfl)) (fun _ _ _ h => h) (Or.inl ⟨by rfl, ?_⟩) ?_ ?_; rotate_left; intro w'; go_simp; with_reducible rfl; rotate_left; simp only [Act.put, sA_, sB_, sC_, i64_w, i32_w]; rfl
                   refine pure_ (i := 27) (N := some 213) (v := ?_) (a' := ?_) #[t_,t_,t_,t_,t_,t_,t_,t_,t_,t_,t_,t_,t_,t_,t_,t_,t_,t_,t_,t_,t_,t_,t_,t_,t_,t_,t_,t_,f_,f_] rfl rfl (any_of HT_.out (by kernel_rfl)) (fun _ _ _ h => h) (Or.inl ⟨by rfl, ?_⟩) ?_ ?_; rotate_left; intro w'; go_simp; with_reducible rfl; rotate_left; simp only [Act.put, sA_, sB_, sC_, i64_w, i32_w]; rfl
                   refine pure_ (i := 28) (N := some 214) (v := ?_) (a' := ?_) #[t_,t_,t_,t_,t_,t_,t_,t_,t_,t_,t_,t_,t_,t_,t_,t_,t_,t_,t_,t_,t_,t_,t_,t_,t_,t_,t_,t_,t_,f_] rfl rfl (any_of HT_.out (by kernel_rfl)) (fun _ _ _ h => h) (Or.inl ⟨by rfl, ?_⟩) ?_ ?_; rotate_left; intro w'; go_simp; with_reducible rfl; rotate_left; simp only [Act.put, sA_, sB_, sC_, i64_w, i32_w]; rfl
                   refine pure_ (i := 29) (N := some 14) (v := ?_) (a' := ?_) #[t_,t_,t_,t_,t_,t_,t_,t_,t_,t_,t_,t_,t_,t_,t_,t_,t_,t_,t_,t_,t_,t_,t_,t_,t_,t_,t_,t_,t_,t_] rfl rfl (any_of HT_.out (by kernel_rfl)) (fun _ _ _ h => h) (Or.inl ⟨by rfl, ?_⟩) ?_ ?_; rotate_left; intro w'; go_simp; with_reducible rfl; rotate_left; simp only [Act.put, sA_, sB_, sC_, i64_w, i32_w]; rfl
                   refine done_ (done_of HT_.out (by kernel_rfl)) ?_
                   try go_wp2
                   go_roundg k5
                   case measure => have := HJ3.out; have := HK2.out; have := HJ22.out; have := HJ26.out; have := HK5.out; omega
                   case rel => exact ⟨(decide ((rd t189 x15_5) ≥ (wrap64 (((rd_T34 x6_3 x12_2).f1) + (wrap64 ((wrap64 (Int.tdiv (wrap64 (((rd_T34 x6_3 x12_2).f0) + 63)) 64)) * 64)))))), (wrap64 (x15_5 + 1)), (by first | rfl | (simp; done) | (simp [*]; done)), (by first | rfl | (simp; done) | (simp [*]; done)), H', ⟨by have := HJ3.out; have := HK2.out; have := HJ22.out; have := HJ26.out; have := HK5.out; omega⟩, ⟨by (with_reducible repeat (first | apply Kd.R_alloc | apply Kd.R_drewN | apply Kd.R_drew)); exact HO_6.out⟩, ⟨by (with_reducible repeat (first | apply Kd.R_alloc | apply Kd.R_drewN | apply Kd.R_drew)); exact HO_10.out⟩, ⟨by (with_reducible repeat (first | refine blk_drewN ?_ _ | refine blk_drew ?_ | refine blk_alloc ?_ _)); exact BK182.out⟩, ⟨by repeat (first | (with_reducible first | exact HB.out | apply below_alloc | apply pw_below_drewN | apply below_drew1 | refine below_set ?_ GE182.out) | exact HB.out)⟩⟩
                rw [if_pos c38] at H
                have c38b0 : decide ((rd t189 x12_2) < (wrap64 ((rd t189 x15_5) + (wrap64 ((wrap64 (Int.tdiv (wrap64 (((rd_T34 x6_3 x15_5).f0) + 63)) 64)) * 64))))) = true := decide_eq_true c38
                clear c38
                by_cases c39 : (rd t189 x15_5) < (wrap64 ((rd t189 x12_2) + (wrap64 ((wrap64 (Int.tdiv (wrap64 (((rd_T34 x6_3 x12_2).f0) + 63)) 64)) * 64))))
                · rw [if_pos c39] at H
                  have c39b0 : decide ((rd t189 x15_5) < (wrap64 ((rd t189 x12_2) + (wrap64 ((wrap64 (Int.tdiv (wrap64 (((rd_T34 x6_3 x12_2).f0) + 63)) 64)) * 64))))) = true := decide_eq_true c39
                  clear c39
                  as_aux_lemma =>
                   obtain rfl := Option.some.inj H
                   have p200 : 0 ≤ (x15_5 : Int) := of_decide_eq_true (by first | (with_reducible assumption) | assumption)
                   have q200 : x15_5 < (x6_3.length : Int) := of_decide_eq_true (by first | (with_reducible assumption) | assumption)
                   obtain ⟨ad200, e200, hx200_0, hx200_1⟩ := at_T34 (Kd.R_reads' HO_6.out).2.2 x15_5 p200 q200
                   obtain rfl : ad193 = ad200 := (by injection e200)
                   replace p200 := eq_true p200
                   replace q200 := eq_true q200
                   try go_wp2
                   have n0_ := Aside0.mk (Kd.R_drew HO_6.out)
                   have n1_ := Aside0.mk (Kd.R_drew HO_10.out)
                   have n2_ := Aside0.mk (blk_drew BK182.out)
                   have n3_ := Aside0.mk (below_drew1 HB.out)
                   clear HO_6
                   clear HO_10
                   clear BK182
                   clear HB
                   have HO_6 := n0_
                   have HO_10 := n1_
                   have BK182 := n2_
                   have HB := n3_
                   clear n0_ n1_ n2_ n3_
                   have p201 : 0 ≤ (x12_2 : Int) := of_decide_eq_true (by first | (with_reducible assumption) | assumption)
                   have q201 : x12_2 < (t189.length : Int) := of_decide_eq_true (by first | (with_reducible assumption) | assumption)
                   obtain ⟨ad201, e201, hx201_0⟩ := Kd.at_int (Kd.R_reads' HO_10.out).2.2 x12_2 p201 q201
                   cases e201
                   replace p201 := eq_true p201
                   replace q201 := eq_true q201
                   have p202 : 0 ≤ (x15_5 : Int) := of_decide_eq_true (by first | (with_reducible assumption) | assumption)
                   have q202 : x15_5 < (t189.length : Int) := of_decide_eq_true (by first | (with_reducible assumption) | assumption)
                   obtain ⟨ad202, e202, hx202_0⟩ := Kd.at_int (Kd.R_reads' HO_10.out).2.2 x15_5 p202 q202
                   obtain rfl : ad201 = ad202 := (by injection e202)
                   replace p202 := eq_true p202
                   replace q202 := eq_true q202
                   have p203 : 0 ≤ (x15_5 : Int) := of_decide_eq_true (by first | (with_reducible assumption) | assumption)
                   have q203 : x15_5 < (t189.length : Int) := of_decide_eq_true (by first | (with_reducible assumption) | assumption)
                   obtain ⟨ad203, e203, hx203_0⟩ := Kd.at_int (Kd.R_reads' HO_10.out).2.2 x15_5 p203 q203
                   obtain rfl : ad201 = ad203 := (by injection e203)
                   replace p203 := eq_true p203
                   replace q203 := eq_true q203
                   have p204 : 0 ≤ (x12_2 : Int) := of_decide_eq_true (by first | (with_reducible assumption) | assumption)
                   have q204 : x12_2 < (t189.length : Int) := of_decide_eq_true (by first | (with_reducible assumption) | assumption)
                   obtain ⟨ad204, e204, hx204_0⟩ := Kd.at_int (Kd.R_reads' HO_10.out).2.2 x12_2 p204 q204
                   obtain rfl : ad201 = ad204 := (by injection e204)
                   replace p204 := eq_true p204
                   replace q204 := eq_true q204
                   refine start_ (n := 24) (S := fun w' => w'.cell? (ad201.add (x12_2).toNat) = some (.int .i64 (rd t189 x12_2)) ∧ w'.cell? (ad201.add (x15_5).toNat) = some (.int .i64 (rd t189 x15_5)) ∧ w'.cell? (ad201.add (x15_5).toNat) = some (.int .i64 (rd t189 x15_5)) ∧ w'.cell? (ad201.add (x12_2).toNat) = some (.int .i64 (rd t189 x12_2))) (ds := []) #[f_,f_,f_,f_,f_,f_,f_,f_,f_,f_,f_,f_,f_,f_,f_,f_,f_,f_,f_,f_,f_,f_,f_,f_] (by kernel_rfl) rfl rfl ⟨hx201_0, hx202_0, hx203_0, hx204_0⟩ (fun hHeld => ?_); refine with_tabW flyleaflaw13_PlaceApart.tab25 flyleaflaw13_PlaceApart.bits25 (fun HT_ HW_ => ?_)
                   generalize wr.drew = w40 at HO_6 HO_10 BK182 HB hx201_0 hx202_0 hx203_0 hx204_0 hHeld ⊢
                   refine pure_ (i := 0) (N := some 162) (v := ?_) (a' := ?_) #[t_,f_,f_,f_,f_,f_,f_,f_,f_,f_,f_,f_,f_,f_,f_,f_,f_,f_,f_,f_,f_,f_,f_,f_] rfl rfl (any_of HT_.out (by kernel_rfl)) (fun _ _ _ h => h) (Or.inl ⟨by rfl, ?_⟩) ?_ ?_; rotate_left; intro w'; go_simp; with_reducible rfl; rotate_left; simp only [Act.put, sA_, sB_, sC_, i64_w, i32_w]; rfl
                   refine pure_ (i := 1) (N := some 163) (v := ?_) (a' := ?_) #[t_,t_,f_,f_,f_,f_,f_,f_,f_,f_,f_,f_,f_,f_,f_,f_,f_,f_,f_,f_,f_,f_,f_,f_] rfl rfl (any_of HT_.out (by kernel_rfl)) (fun _ _ _ h => h) (Or.inl ⟨by rfl, ?_⟩) ?_ ?_; rotate_left; intro w'; go_simp; with_reducible rfl; rotate_left; simp only [Act.put, sA_, sB_, sC_, i64_w, i32_w]; rfl
                   refine pure_ (i := 2) (N := some 164) (v := ?_) (a' := ?_) #[t_,t_,t_,f_,f_,f_,f_,f_,f_,f_,f_,f_,f_,f_,f_,f_,f_,f_,f_,f_,f_,f_,f_,f_] rfl rfl (any_of HT_.out (by kernel_rfl)) (fun _ _ _ h => h) (Or.inl ⟨by rfl, ?_⟩) ?_ ?_; rotate_left; intro w'; go_simp; with_reducible rfl; rotate_left; simp only [Act.put, sA_, sB_, sC_, i64_w, i32_w]; rfl
                   refine pure_ (i := 4) (N := some 166) (v := ?_) (a' := ?_) #[t_,t_,t_,f_,t_,f_,f_,f_,f_,f_,f_,f_,f_,f_,f_,f_,f_,f_,f_,f_,f_,f_,f_,f_] rfl rfl (any_of HT_.out (by kernel_rfl)) (fun _ _ _ h => h) (Or.inl ⟨by rfl, ?_⟩) ?_ ?_; rotate_left; intro w'; go_simp; with_reducible rfl; rotate_left; simp only [Act.put, sA_, sB_, sC_, i64_w, i32_w]; rfl
                   refine pure_ (i := 5) (N := some 167) (v := ?_) (a' := ?_) #[t_,t_,t_,f_,t_,t_,f_,f_,f_,f_,f_,f_,f_,f_,f_,f_,f_,f_,f_,f_,f_,f_,f_,f_] rfl rfl (any_of HT_.out (by kernel_rfl)) (fun _ _ _ h => h) (Or.inl ⟨by rfl, ?_⟩) ?_ ?_; rotate_left; intro w'; go_simp; with_reducible rfl; rotate_left; simp only [Act.put, sA_, sB_, sC_, i64_w, i32_w]; rfl
                   refine pure_ (i := 6) (N := some 168) (v := ?_) (a' := ?_) #[t_,t_,t_,f_,t_,t_,t_,f_,f_,f_,f_,f_,f_,f_,f_,f_,f_,f_,f_,f_,f_,f_,f_,f_] rfl rfl (any_of HT_.out (by kernel_rfl)) (fun _ _ _ h => h) (Or.inl ⟨by rfl, ?_⟩) ?_ ?_; rotate_left; intro w'; go_simp; with_reducible rfl; rotate_left; simp only [Act.put, sA_, sB_, sC_, i64_w, i32_w]; rfl
                   refine pure_ (i := 8) (N := some 170) (v := ?_) (a' := ?_) #[t_,t_,t_,f_,t_,t_,t_,f_,t_,f_,f_,f_,f_,f_,f_,f_,f_,f_,f_,f_,f_,f_,f_,f_] rfl rfl (any_of HT_.out (by kernel_rfl)) (fun _ _ _ h => h) (Or.inl ⟨by rfl, ?_⟩) ?_ ?_; rotate_left; intro w'; go_simp; with_reducible rfl; rotate_left; simp only [Act.put, sA_, sB_, sC_, i64_w, i32_w]; rfl
                   refine take_ (i := 3) (N := some 165) (v := ?_) (a' := ?_) #[t_,t_,t_,t_,t_,t_,t_,f_,t_,f_,f_,f_,f_,f_,f_,f_,f_,f_,f_,f_,f_,f_,f_,f_] rfl rfl (take_ofW HT_.out HW_.out (by kernel_rfl)) (fun _ _ _ h => h) (Or.inl ⟨by rfl, ?_⟩) hHeld ?_ ?_; rotate_left; rintro w' ⟨s0, s1, s2, s3⟩; go_simp; with_reducible rfl; rotate_left; simp only [Act.put, sA_, sB_, sC_, i64_w, i32_w]; rfl
                   refine take_ (i := 7) (N := some 169) (v := ?_) (a' := ?_) #[t_,t_,t_,t_,t_,t_,t_,t_,t_,f_,f_,f_,f_,f_,f_,f_,f_,f_,f_,f_,f_,f_,f_,f_] rfl rfl (take_ofW HT_.out HW_.out (by kernel_rfl)) (fun _ _ _ h => h) (Or.inl ⟨by rfl, ?_⟩) hHeld ?_ ?_; rotate_left; rintro w' ⟨s0, s1, s2, s3⟩; go_simp; with_reducible rfl; rotate_left; simp only [Act.put, sA_, sB_, sC_, i64_w, i32_w]; rfl
                   refine pure_ (i := 9) (N := some 171) (v := ?_) (a' := ?_) #[t_,t_,t_,t_,t_,t_,t_,t_,t_,t_,f_,f_,f_,f_,f_,f_,f_,f_,f_,f_,f_,f_,f_,f_] rfl rfl (any_of HT_.out (by kernel_rfl)) (fun _ _ _ h => h) (Or.inl ⟨by rfl, ?_⟩) ?_ ?_; rotate_left; intro w'; go_simp; with_reducible rfl; rotate_left; simp only [Act.put, sA_, sB_, sC_, i64_w, i32_w]; rfl
                   refine pure_ (i := 10) (N := some 172) (v := ?_) (a' := ?_) #[t_,t_,t_,t_,t_,t_,t_,t_,t_,t_,t_,f_,f_,f_,f_,f_,f_,f_,f_,f_,f_,f_,f_,f_] rfl rfl (any_of HT_.out (by kernel_rfl)) (fun _ _ _ h => h) (Or.inl ⟨by rfl, ?_⟩) ?_ ?_; rotate_left; intro w'; go_simp; with_reducible rfl; rotate_left; simp only [Act.put, sA_, sB_, sC_, i64_w, i32_w]; rfl
                   refine pure_ (i := 11) (N := some 173) (v := ?_) (a' := ?_) #[t_,t_,t_,t_,t_,t_,t_,t_,t_,t_,t_,t_,f_,f_,f_,f_,f_,f_,f_,f_,f_,f_,f_,f_] rfl rfl (any_of HT_.out (by kernel_rfl)) (fun _ _ _ h => h) (Or.inl ⟨by rfl, ?_⟩) ?_ ?_; rotate_left; intro w'; go_simp; with_reducible rfl; rotate_left; simp only [Act.put, sA_, sB_, sC_, i64_w, i32_w]; rfl
                   refine pure_ (i := 12) (N := some 174) (v := ?_) (a' := ?_) #[t_,t_,t_,t_,t_,t_,t_,t_,t_,t_,t_,t_,t_,f_,f_,f_,f_,f_,f_,f_,f_,f_,f_,f_] rfl rfl (any_of HT_.out (by kernel_rfl)) (fun _ _ _ h => h) (Or.inl ⟨by rfl, ?_⟩) ?_ ?_; rotate_left; intro w'; go_simp; with_reducible rfl; rotate_left; simp only [Act.put, sA_, sB_, sC_, i64_w, i32_w]; rfl
                   refine pure_ (i := 13) (N := some 175) (v := ?_) (a' := ?_) #[t_,t_,t_,t_,t_,t_,t_,t_,t_,t_,t_,t_,t_,t_,f_,f_,f_,f_,f_,f_,f_,f_,f_,f_] rfl rfl (any_of HT_.out (by kernel_rfl)) (fun _ _ _ h => h) (Or.inl ⟨by rfl, ?_⟩) ?_ ?_; rotate_left; intro w'; go_simp; with_reducible rfl; rotate_left; simp only [Act.put, sA_, sB_, sC_, i64_w, i32_w]; rfl
                   refine pure_ (i := 14) (N := some 176) (v := ?_) (a' := ?_) #[t_,t_,t_,t_,t_,t_,t_,t_,t_,t_,t_,t_,t_,t_,t_,f_,f_,f_,f_,f_,f_,f_,f_,f_] rfl rfl (any_of HT_.out (by kernel_rfl)) (fun _ _ _ h => h) (Or.inl ⟨by rfl, ?_⟩) ?_ ?_; rotate_left; intro w'; go_simp; with_reducible rfl; rotate_left; simp only [Act.put, sA_, sB_, sC_, i64_w, i32_w]; rfl
                   refine pure_ (i := 16) (N := some 178) (v := ?_) (a' := ?_) #[t_,t_,t_,t_,t_,t_,t_,t_,t_,t_,t_,t_,t_,t_,t_,f_,t_,f_,f_,f_,f_,f_,f_,f_] rfl rfl (any_of HT_.out (by kernel_rfl)) (fun _ _ _ h => h) (Or.inl ⟨by rfl, ?_⟩) ?_ ?_; rotate_left; intro w'; go_simp; with_reducible rfl; rotate_left; simp only [Act.put, sA_, sB_, sC_, i64_w, i32_w]; rfl
                   refine pure_ (i := 17) (N := some 179) (v := ?_) (a' := ?_) #[t_,t_,t_,t_,t_,t_,t_,t_,t_,t_,t_,t_,t_,t_,t_,f_,t_,t_,f_,f_,f_,f_,f_,f_] rfl rfl (any_of HT_.out (by kernel_rfl)) (fun _ _ _ h => h) (Or.inl ⟨by rfl, ?_⟩) ?_ ?_; rotate_left; intro w'; go_simp; with_reducible rfl; rotate_left; simp only [Act.put, sA_, sB_, sC_, i64_w, i32_w]; rfl
                   refine pure_ (i := 18) (N := some 180) (v := ?_) (a' := ?_) #[t_,t_,t_,t_,t_,t_,t_,t_,t_,t_,t_,t_,t_,t_,t_,f_,t_,t_,t_,f_,f_,f_,f_,f_] rfl rfl (any_of HT_.out (by kernel_rfl)) (fun _ _ _ h => h) (Or.inl ⟨by rfl, ?_⟩) ?_ ?_; rotate_left; intro w'; go_simp; with_reducible rfl; rotate_left; simp only [Act.put, sA_, sB_, sC_, i64_w, i32_w]; rfl
                   refine pure_ (i := 20) (N := some 182) (v := ?_) (a' := ?_) #[t_,t_,t_,t_,t_,t_,t_,t_,t_,t_,t_,t_,t_,t_,t_,f_,t_,t_,t_,f_,t_,f_,f_,f_] rfl rfl (any_of HT_.out (by kernel_rfl)) (fun _ _ _ h => h) (Or.inl ⟨by rfl, ?_⟩) ?_ ?_; rotate_left; intro w'; go_simp; with_reducible rfl; rotate_left; simp only [Act.put, sA_, sB_, sC_, i64_w, i32_w]; rfl
                   refine take_ (i := 15) (N := some 177) (v := ?_) (a' := ?_) #[t_,t_,t_,t_,t_,t_,t_,t_,t_,t_,t_,t_,t_,t_,t_,t_,t_,t_,t_,f_,t_,f_,f_,f_] rfl rfl (take_ofW HT_.out HW_.out (by kernel_rfl)) (fun _ _ _ h => h) (Or.inl ⟨by rfl, ?_⟩) hHeld ?_ ?_; rotate_left; rintro w' ⟨s0, s1, s2, s3⟩; go_simp; with_reducible rfl; rotate_left; simp only [Act.put, sA_, sB_, sC_, i64_w, i32_w]; rfl
                   refine take_ (i := 19) (N := some 181) (v := ?_) (a' := ?_) #[t_,t_,t_,t_,t_,t_,t_,t_,t_,t_,t_,t_,t_,t_,t_,t_,t_,t_,t_,t_,t_,f_,f_,f_] rfl rfl (take_ofW HT_.out HW_.out (by kernel_rfl)) (fun _ _ _ h => h) (Or.inl ⟨by rfl, ?_⟩) hHeld ?_ ?_; rotate_left; rintro w' ⟨s0, s1, s2, s3⟩; go_simp; with_reducible rfl; rotate_left; simp only [Act.put, sA_, sB_, sC_, i64_w, i32_w]; rfl
                   refine pure_ (i := 21) (N := some 183) (v := ?_) (a' := ?_) #[t_,t_,t_,t_,t_,t_,t_,t_,t_,t_,t_,t_,t_,t_,t_,t_,t_,t_,t_,t_,t_,t_,f_,f_] rfl rfl (any_of HT_.out (by kernel_rfl)) (fun _ _ _ h => h) (Or.inl ⟨by rfl, ?_⟩) ?_ ?_; rotate_left; intro w'; go_simp; with_reducible rfl; rotate_left; simp only [Act.put, sA_, sB_, sC_, i64_w, i32_w]; rfl
                   refine pure_ (i := 22) (N := some 184) (v := ?_) (a' := ?_) #[t_,t_,t_,t_,t_,t_,t_,t_,t_,t_,t_,t_,t_,t_,t_,t_,t_,t_,t_,t_,t_,t_,t_,f_] rfl rfl (any_of HT_.out (by kernel_rfl)) (fun _ _ _ h => h) (Or.inl ⟨by rfl, ?_⟩) ?_ ?_; rotate_left; intro w'; go_simp; with_reducible rfl; rotate_left; simp only [Act.put, sA_, sB_, sC_, i64_w, i32_w]; rfl
                   refine pure_ (i := 23) (N := some 185) (v := ?_) (a' := ?_) #[t_,t_,t_,t_,t_,t_,t_,t_,t_,t_,t_,t_,t_,t_,t_,t_,t_,t_,t_,t_,t_,t_,t_,t_] rfl rfl (any_of HT_.out (by kernel_rfl)) (fun _ _ _ h => h) (Or.inl ⟨by rfl, ?_⟩) ?_ ?_; rotate_left; intro w'; go_simp; with_reducible rfl; rotate_left; simp only [Act.put, sA_, sB_, sC_, i64_w, i32_w]; rfl
                   refine done_ (done_of HT_.out (by kernel_rfl)) ?_
                   try go_wp2
                   go_ret
                   exact ⟨by first | rfl | (simp [errW_none, errW_some] <;> rfl) | (simp [*, errW_none, errW_some] <;> rfl), by repeat (first | (with_reducible first | exact HB.out | apply below_alloc | apply pw_below_drewN | apply below_drew1 | refine below_set ?_ GE182.out) | exact HB.out)⟩
                rw [if_neg c39] at H
                have c39b0 : decide ((rd t189 x15_5) < (wrap64 ((rd t189 x12_2) + (wrap64 ((wrap64 (Int.tdiv (wrap64 (((rd_T34 x6_3 x12_2).f0) + 63)) 64)) * 64))))) = false := decide_eq_false c39
                clear c39
                by_cases c41 : x14_5 = true
                rotate_left
                · replace c41 := Bool.eq_false_iff.mpr c41
                  subst c41
                  have H1 : (flyleaflaw13_PlaceApart.l2 k5 t183 x6_3 (wrap64 (64 * (Go.bits .and .i64 a1_0 63))) (wrap64 ((wrap64 (64 * (Go.bits .and .i64 a1_0 63))) + (wrap64 (64 * (Go.bits .and .i64 a1_1 127))))) t189 x12_2 (wrap64 ((wrap64 (Int.tdiv (wrap64 (((rd_T34 x6_3 x12_2).f0) + 63)) 64)) * 64)) false (wrap64 (x15_5 + 1))) = some r := by rw [if_neg (show ¬ (false = true) by decide)] at H; exact H
                  clear H
                  have H := H1
                  clear H1
                  as_aux_lemma =>
                   have H' := Aside0.mk H
                   clear H
                   have p200 : 0 ≤ (x15_5 : Int) := of_decide_eq_true (by first | (with_reducible assumption) | assumption)
                   have q200 : x15_5 < (x6_3.length : Int) := of_decide_eq_true (by first | (with_reducible assumption) | assumption)
                   obtain ⟨ad200, e200, hx200_0, hx200_1⟩ := at_T34 (Kd.R_reads' HO_6.out).2.2 x15_5 p200 q200
                   obtain rfl : ad193 = ad200 := (by injection e200)
                   replace p200 := eq_true p200
                   replace q200 := eq_true q200
                   try go_wp2
                   have n0_ := Aside0.mk (Kd.R_drew HO_6.out)
                   have n1_ := Aside0.mk (Kd.R_drew HO_10.out)
                   have n2_ := Aside0.mk (blk_drew BK182.out)
                   have n3_ := Aside0.mk (below_drew1 HB.out)
                   clear HO_6
                   clear HO_10
                   clear BK182
                   clear HB
                   have HO_6 := n0_
                   have HO_10 := n1_
                   have BK182 := n2_
                   have HB := n3_
                   clear n0_ n1_ n2_ n3_
                   have p201 : 0 ≤ (x12_2 : Int) := of_decide_eq_true (by first | (with_reducible assumption) | assumption)
                   have q201 : x12_2 < (t189.length : Int) := of_decide_eq_true (by first | (with_reducible assumption) | assumption)
                   obtain ⟨ad201, e201, hx201_0⟩ := Kd.at_int (Kd.R_reads' HO_10.out).2.2 x12_2 p201 q201
                   cases e201
                   replace p201 := eq_true p201
                   replace q201 := eq_true q201
                   have p202 : 0 ≤ (x15_5 : Int) := of_decide_eq_true (by first | (with_reducible assumption) | assumption)
                   have q202 : x15_5 < (t189.length : Int) := of_decide_eq_true (by first | (with_reducible assumption) | assumption)
                   obtain ⟨ad202, e202, hx202_0⟩ := Kd.at_int (Kd.R_reads' HO_10.out).2.2 x15_5 p202 q202
                   obtain rfl : ad201 = ad202 := (by injection e202)
                   replace p202 := eq_true p202
                   replace q202 := eq_true q202
                   have p203 : 0 ≤ (x15_5 : Int) := of_decide_eq_true (by first | (with_reducible assumption) | assumption)
                   have q203 : x15_5 < (t189.length : Int) := of_decide_eq_true (by first | (with_reducible assumption) | assumption)
                   obtain ⟨ad203, e203, hx203_0⟩ := Kd.at_int (Kd.R_reads' HO_10.out).2.2 x15_5 p203 q203
                   obtain rfl : ad201 = ad203 := (by injection e203)
                   replace p203 := eq_true p203
                   replace q203 := eq_true q203
                   have p204 : 0 ≤ (x12_2 : Int) := of_decide_eq_true (by first | (with_reducible assumption) | assumption)
                   have q204 : x12_2 < (t189.length : Int) := of_decide_eq_true (by first | (with_reducible assumption) | assumption)
                   obtain ⟨ad204, e204, hx204_0⟩ := Kd.at_int (Kd.R_reads' HO_10.out).2.2 x12_2 p204 q204
                   obtain rfl : ad201 = ad204 := (by injection e204)
                   replace p204 := eq_true p204
                   replace q204 := eq_true q204
                   refine start_ (n := 24) (S := fun w' => w'.cell? (ad201.add (x12_2).toNat) = some (.int .i64 (rd t189 x12_2)) ∧ w'.cell? (ad201.add (x15_5).toNat) = some (.int .i64 (rd t189 x15_5)) ∧ w'.cell? (ad201.add (x15_5).toNat) = some (.int .i64 (rd t189 x15_5)) ∧ w'.cell? (ad201.add (x12_2).toNat) = some (.int .i64 (rd t189 x12_2))) (ds := []) #[f_,f_,f_,f_,f_,f_,f_,f_,f_,f_,f_,f_,f_,f_,f_,f_,f_,f_,f_,f_,f_,f_,f_,f_] (by kernel_rfl) rfl rfl ⟨hx201_0, hx202_0, hx203_0, hx204_0⟩ (fun hHeld => ?_); refine with_tabW flyleaflaw13_PlaceApart.tab25 flyleaflaw13_PlaceApart.bits25 (fun HT_ HW_ => ?_)
                   generalize wr.drew = w48 at HO_6 HO_10 BK182 HB hx201_0 hx202_0 hx203_0 hx204_0 hHeld ⊢
                   refine pure_ (i := 0) (N := some 162) (v := ?_) (a' := ?_) #[t_,f_,f_,f_,f_,f_,f_,f_,f_,f_,f_,f_,f_,f_,f_,f_,f_,f_,f_,f_,f_,f_,f_,f_] rfl rfl (any_of HT_.out (by kernel_rfl)) (fun _ _ _ h => h) (Or.inl ⟨by rfl, ?_⟩) ?_ ?_; rotate_left; intro w'; go_simp; with_reducible rfl; rotate_left; simp only [Act.put, sA_, sB_, sC_, i64_w, i32_w]; rfl
                   refine pure_ (i := 1) (N := some 163) (v := ?_) (a' := ?_) #[t_,t_,f_,f_,f_,f_,f_,f_,f_,f_,f_,f_,f_,f_,f_,f_,f_,f_,f_,f_,f_,f_,f_,f_] rfl rfl (any_of HT_.out (by kernel_rfl)) (fun _ _ _ h => h) (Or.inl ⟨by rfl, ?_⟩) ?_ ?_; rotate_left; intro w'; go_simp; with_reducible rfl; rotate_left; simp only [Act.put, sA_, sB_, sC_, i64_w, i32_w]; rfl
                   refine pure_ (i := 2) (N := some 164) (v := ?_) (a' := ?_) #[t_,t_,t_,f_,f_,f_,f_,f_,f_,f_,f_,f_,f_,f_,f_,f_,f_,f_,f_,f_,f_,f_,f_,f_] rfl rfl (any_of HT_.out (by kernel_rfl)) (fun _ _ _ h => h) (Or.inl ⟨by rfl, ?_⟩) ?_ ?_; rotate_left; intro w'; go_simp; with_reducible rfl; rotate_left; simp only [Act.put, sA_, sB_, sC_, i64_w, i32_w]; rfl
                   refine pure_ (i := 4) (N := some 166) (v := ?_) (a' := ?_) #[t_,t_,t_,f_,t_,f_,f_,f_,f_,f_,f_,f_,f_,f_,f_,f_,f_,f_,f_,f_,f_,f_,f_,f_] rfl rfl (any_of HT_.out (by kernel_rfl)) (fun _ _ _ h => h) (Or.inl ⟨by rfl, ?_⟩) ?_ ?_; rotate_left; intro w'; go_simp; with_reducible rfl; rotate_left; simp only [Act.put, sA_, sB_, sC_, i64_w, i32_w]; rfl
                   refine pure_ (i := 5) (N := some 167) (v := ?_) (a' := ?_) #[t_,t_,t_,f_,t_,t_,f_,f_,f_,f_,f_,f_,f_,f_,f_,f_,f_,f_,f_,f_,f_,f_,f_,f_] rfl rfl (any_of HT_.out (by kernel_rfl)) (fun _ _ _ h => h) (Or.inl ⟨by rfl, ?_⟩) ?_ ?_; rotate_left; intro w'; go_simp; with_reducible rfl; rotate_left; simp only [Act.put, sA_, sB_, sC_, i64_w, i32_w]; rfl
                   refine pure_ (i := 6) (N := some 168) (v := ?_) (a' := ?_) #[t_,t_,t_,f_,t_,t_,t_,f_,f_,f_,f_,f_,f_,f_,f_,f_,f_,f_,f_,f_,f_,f_,f_,f_] rfl rfl (any_of HT_.out (by kernel_rfl)) (fun _ _ _ h => h) (Or.inl ⟨by rfl, ?_⟩) ?_ ?_; rotate_left; intro w'; go_simp; with_reducible rfl; rotate_left; simp only [Act.put, sA_, sB_, sC_, i64_w, i32_w]; rfl
                   refine pure_ (i := 8) (N := some 170) (v := ?_) (a' := ?_) #[t_,t_,t_,f_,t_,t_,t_,f_,t_,f_,f_,f_,f_,f_,f_,f_,f_,f_,f_,f_,f_,f_,f_,f_] rfl rfl (any_of HT_.out (by kernel_rfl)) (fun _ _ _ h => h) (Or.inl ⟨by rfl, ?_⟩) ?_ ?_; rotate_left; intro w'; go_simp; with_reducible rfl; rotate_left; simp only [Act.put, sA_, sB_, sC_, i64_w, i32_w]; rfl
                   refine take_ (i := 3) (N := some 165) (v := ?_) (a' := ?_) #[t_,t_,t_,t_,t_,t_,t_,f_,t_,f_,f_,f_,f_,f_,f_,f_,f_,f_,f_,f_,f_,f_,f_,f_] rfl rfl (take_ofW HT_.out HW_.out (by kernel_rfl)) (fun _ _ _ h => h) (Or.inl ⟨by rfl, ?_⟩) hHeld ?_ ?_; rotate_left; rintro w' ⟨s0, s1, s2, s3⟩; go_simp; with_reducible rfl; rotate_left; simp only [Act.put, sA_, sB_, sC_, i64_w, i32_w]; rfl
                   refine take_ (i := 7) (N := some 169) (v := ?_) (a' := ?_) #[t_,t_,t_,t_,t_,t_,t_,t_,t_,f_,f_,f_,f_,f_,f_,f_,f_,f_,f_,f_,f_,f_,f_,f_] rfl rfl (take_ofW HT_.out HW_.out (by kernel_rfl)) (fun _ _ _ h => h) (Or.inl ⟨by rfl, ?_⟩) hHeld ?_ ?_; rotate_left; rintro w' ⟨s0, s1, s2, s3⟩; go_simp; with_reducible rfl; rotate_left; simp only [Act.put, sA_, sB_, sC_, i64_w, i32_w]; rfl
                   refine pure_ (i := 9) (N := some 171) (v := ?_) (a' := ?_) #[t_,t_,t_,t_,t_,t_,t_,t_,t_,t_,f_,f_,f_,f_,f_,f_,f_,f_,f_,f_,f_,f_,f_,f_] rfl rfl (any_of HT_.out (by kernel_rfl)) (fun _ _ _ h => h) (Or.inl ⟨by rfl, ?_⟩) ?_ ?_; rotate_left; intro w'; go_simp; with_reducible rfl; rotate_left; simp only [Act.put, sA_, sB_, sC_, i64_w, i32_w]; rfl
                   refine pure_ (i := 10) (N := some 172) (v := ?_) (a' := ?_) #[t_,t_,t_,t_,t_,t_,t_,t_,t_,t_,t_,f_,f_,f_,f_,f_,f_,f_,f_,f_,f_,f_,f_,f_] rfl rfl (any_of HT_.out (by kernel_rfl)) (fun _ _ _ h => h) (Or.inl ⟨by rfl, ?_⟩) ?_ ?_; rotate_left; intro w'; go_simp; with_reducible rfl; rotate_left; simp only [Act.put, sA_, sB_, sC_, i64_w, i32_w]; rfl
                   refine pure_ (i := 11) (N := some 173) (v := ?_) (a' := ?_) #[t_,t_,t_,t_,t_,t_,t_,t_,t_,t_,t_,t_,f_,f_,f_,f_,f_,f_,f_,f_,f_,f_,f_,f_] rfl rfl (any_of HT_.out (by kernel_rfl)) (fun _ _ _ h => h) (Or.inl ⟨by rfl, ?_⟩) ?_ ?_; rotate_left; intro w'; go_simp; with_reducible rfl; rotate_left; simp only [Act.put, sA_, sB_, sC_, i64_w, i32_w]; rfl
                   refine pure_ (i := 12) (N := some 174) (v := ?_) (a' := ?_) #[t_,t_,t_,t_,t_,t_,t_,t_,t_,t_,t_,t_,t_,f_,f_,f_,f_,f_,f_,f_,f_,f_,f_,f_] rfl rfl (any_of HT_.out (by kernel_rfl)) (fun _ _ _ h => h) (Or.inl ⟨by rfl, ?_⟩) ?_ ?_; rotate_left; intro w'; go_simp; with_reducible rfl; rotate_left; simp only [Act.put, sA_, sB_, sC_, i64_w, i32_w]; rfl
                   refine pure_ (i := 13) (N := some 175) (v := ?_) (a' := ?_) #[t_,t_,t_,t_,t_,t_,t_,t_,t_,t_,t_,t_,t_,t_,f_,f_,f_,f_,f_,f_,f_,f_,f_,f_] rfl rfl (any_of HT_.out (by kernel_rfl)) (fun _ _ _ h => h) (Or.inl ⟨by rfl, ?_⟩) ?_ ?_; rotate_left; intro w'; go_simp; with_reducible rfl; rotate_left; simp only [Act.put, sA_, sB_, sC_, i64_w, i32_w]; rfl
                   refine pure_ (i := 14) (N := some 176) (v := ?_) (a' := ?_) #[t_,t_,t_,t_,t_,t_,t_,t_,t_,t_,t_,t_,t_,t_,t_,f_,f_,f_,f_,f_,f_,f_,f_,f_] rfl rfl (any_of HT_.out (by kernel_rfl)) (fun _ _ _ h => h) (Or.inl ⟨by rfl, ?_⟩) ?_ ?_; rotate_left; intro w'; go_simp; with_reducible rfl; rotate_left; simp only [Act.put, sA_, sB_, sC_, i64_w, i32_w]; rfl
                   refine pure_ (i := 16) (N := some 178) (v := ?_) (a' := ?_) #[t_,t_,t_,t_,t_,t_,t_,t_,t_,t_,t_,t_,t_,t_,t_,f_,t_,f_,f_,f_,f_,f_,f_,f_] rfl rfl (any_of HT_.out (by kernel_rfl)) (fun _ _ _ h => h) (Or.inl ⟨by rfl, ?_⟩) ?_ ?_; rotate_left; intro w'; go_simp; with_reducible rfl; rotate_left; simp only [Act.put, sA_, sB_, sC_, i64_w, i32_w]; rfl
                   refine pure_ (i := 17) (N := some 179) (v := ?_) (a' := ?_) #[t_,t_,t_,t_,t_,t_,t_,t_,t_,t_,t_,t_,t_,t_,t_,f_,t_,t_,f_,f_,f_,f_,f_,f_] rfl rfl (any_of HT_.out (by kernel_rfl)) (fun _ _ _ h => h) (Or.inl ⟨by rfl, ?_⟩) ?_ ?_; rotate_left; intro w'; go_simp; with_reducible rfl; rotate_left; simp only [Act.put, sA_, sB_, sC_, i64_w, i32_w]; rfl
                   refine pure_ (i := 18) (N := some 180) (v := ?_) (a' := ?_) #[t_,t_,t_,t_,t_,t_,t_,t_,t_,t_,t_,t_,t_,t_,t_,f_,t_,t_,t_,f_,f_,f_,f_,f_] rfl rfl (any_of HT_.out (by kernel_rfl)) (fun _ _ _ h => h) (Or.inl ⟨by rfl, ?_⟩) ?_ ?_; rotate_left; intro w'; go_simp; with_reducible rfl; rotate_left; simp only [Act.put, sA_, sB_, sC_, i64_w, i32_w]; rfl
                   refine pure_ (i := 20) (N := some 182) (v := ?_) (a' := ?_) #[t_,t_,t_,t_,t_,t_,t_,t_,t_,t_,t_,t_,t_,t_,t_,f_,t_,t_,t_,f_,t_,f_,f_,f_] rfl rfl (any_of HT_.out (by kernel_rfl)) (fun _ _ _ h => h) (Or.inl ⟨by rfl, ?_⟩) ?_ ?_; rotate_left; intro w'; go_simp; with_reducible rfl; rotate_left; simp only [Act.put, sA_, sB_, sC_, i64_w, i32_w]; rfl
                   refine take_ (i := 15) (N := some 177) (v := ?_) (a' := ?_) #[t_,t_,t_,t_,t_,t_,t_,t_,t_,t_,t_,t_,t_,t_,t_,t_,t_,t_,t_,f_,t_,f_,f_,f_] rfl rfl (take_ofW HT_.out HW_.out (by kernel_rfl)) (fun _ _ _ h => h) (Or.inl ⟨by rfl, ?_⟩) hHeld ?_ ?_; rotate_left; rintro w' ⟨s0, s1, s2, s3⟩; go_simp; with_reducible rfl; rotate_left; simp only [Act.put, sA_, sB_, sC_, i64_w, i32_w]; rfl
                   refine take_ (i := 19) (N := some 181) (v := ?_) (a' := ?_) #[t_,t_,t_,t_,t_,t_,t_,t_,t_,t_,t_,t_,t_,t_,t_,t_,t_,t_,t_,t_,t_,f_,f_,f_] rfl rfl (take_ofW HT_.out HW_.out (by kernel_rfl)) (fun _ _ _ h => h) (Or.inl ⟨by rfl, ?_⟩) hHeld ?_ ?_; rotate_left; rintro w' ⟨s0, s1, s2, s3⟩; go_simp; with_reducible rfl; rotate_left; simp only [Act.put, sA_, sB_, sC_, i64_w, i32_w]; rfl
                   refine pure_ (i := 21) (N := some 183) (v := ?_) (a' := ?_) #[t_,t_,t_,t_,t_,t_,t_,t_,t_,t_,t_,t_,t_,t_,t_,t_,t_,t_,t_,t_,t_,t_,f_,f_] rfl rfl (any_of HT_.out (by kernel_rfl)) (fun _ _ _ h => h) (Or.inl ⟨by rfl, ?_⟩) ?_ ?_; rotate_left; intro w'; go_simp; with_reducible rfl; rotate_left; simp only [Act.put, sA_, sB_, sC_, i64_w, i32_w]; rfl
                   refine pure_ (i := 22) (N := some 184) (v := ?_) (a' := ?_) #[t_,t_,t_,t_,t_,t_,t_,t_,t_,t_,t_,t_,t_,t_,t_,t_,t_,t_,t_,t_,t_,t_,t_,f_] rfl rfl (any_of HT_.out (by kernel_rfl)) (fun _ _ _ h => h) (Or.inl ⟨by rfl, ?_⟩) ?_ ?_; rotate_left; intro w'; go_simp; with_reducible rfl; rotate_left; simp only [Act.put, sA_, sB_, sC_, i64_w, i32_w]; rfl
                   refine pure_ (i := 23) (N := some 185) (v := ?_) (a' := ?_) #[t_,t_,t_,t_,t_,t_,t_,t_,t_,t_,t_,t_,t_,t_,t_,t_,t_,t_,t_,t_,t_,t_,t_,t_] rfl rfl (any_of HT_.out (by kernel_rfl)) (fun _ _ _ h => h) (Or.inl ⟨by rfl, ?_⟩) ?_ ?_; rotate_left; intro w'; go_simp; with_reducible rfl; rotate_left; simp only [Act.put, sA_, sB_, sC_, i64_w, i32_w]; rfl
                   refine done_ (done_of HT_.out (by kernel_rfl)) ?_
                   try go_wp2
                   have n0_ := Aside0.mk (Kd.R_drew HO_6.out)
                   have n1_ := Aside0.mk (Kd.R_drew HO_10.out)
                   have n2_ := Aside0.mk (blk_drew BK182.out)
                   have n3_ := Aside0.mk (below_drew1 HB.out)
                   clear HO_6
                   clear HO_10
                   clear BK182
                   clear HB
                   have HO_6 := n0_
                   have HO_10 := n1_
                   have BK182 := n2_
                   have HB := n3_
                   clear n0_ n1_ n2_ n3_
                   refine start_ (n := 30) (S := fun w' => True) (ds := []) #[f_,f_,f_,f_,f_,f_,f_,f_,f_,f_,f_,f_,f_,f_,f_,f_,f_,f_,f_,f_,f_,f_,f_,f_,f_,f_,f_,f_,f_,f_] (by kernel_rfl) rfl rfl trivial (fun hHeld => ?_); refine with_tabW flyleaflaw13_PlaceApart.tab27 flyleaflaw13_PlaceApart.bits27 (fun HT_ HW_ => ?_)
                   generalize w48.drew = w49 at HO_6 HO_10 BK182 HB hHeld ⊢
                   refine pure_ (i := 0) (N := some 186) (v := ?_) (a' := ?_) #[t_,f_,f_,f_,f_,f_,f_,f_,f_,f_,f_,f_,f_,f_,f_,f_,f_,f_,f_,f_,f_,f_,f_,f_,f_,f_,f_,f_,f_,f_] rfl rfl (any_of HT_.out (by kernel_rfl)) (fun _ _ _ h => h) (Or.inl ⟨by rfl, ?_⟩) ?_ ?_; rotate_left; intro w'; go_simp; with_reducible rfl; rotate_left; simp only [Act.put, sA_, sB_, sC_, i64_w, i32_w]; rfl
                   refine pure_ (i := 1) (N := some 187) (v := ?_) (a' := ?_) #[t_,t_,f_,f_,f_,f_,f_,f_,f_,f_,f_,f_,f_,f_,f_,f_,f_,f_,f_,f_,f_,f_,f_,f_,f_,f_,f_,f_,f_,f_] rfl rfl (any_of HT_.out (by kernel_rfl)) (fun _ _ _ h => h) (Or.inl ⟨by rfl, ?_⟩) ?_ ?_; rotate_left; intro w'; go_simp; with_reducible rfl; rotate_left; simp only [Act.put, sA_, sB_, sC_, i64_w, i32_w]; rfl
                   refine pure_ (i := 2) (N := some 188) (v := undef) (a' := ?_) #[t_,t_,t_,f_,f_,f_,f_,f_,f_,f_,f_,f_,f_,f_,f_,f_,f_,f_,f_,f_,f_,f_,f_,f_,f_,f_,f_,f_,f_,f_] rfl rfl (any_of HT_.out (by kernel_rfl)) (fun _ _ _ h => h) (Or.inr ⟨by rfl, rfl⟩) ?_ ?_
                   rotate_left
                   · simp only [Act.put, sA_, sB_, sC_, i64_w, i32_w]
                     rfl
                   refine pure_ (i := 3) (N := some 189) (v := undef) (a' := ?_) #[t_,t_,t_,t_,f_,f_,f_,f_,f_,f_,f_,f_,f_,f_,f_,f_,f_,f_,f_,f_,f_,f_,f_,f_,f_,f_,f_,f_,f_,f_] rfl rfl (any_of HT_.out (by kernel_rfl)) (fun _ _ _ h => h) (Or.inr ⟨by rfl, rfl⟩) ?_ ?_
                   rotate_left
                   · simp only [Act.put, sA_, sB_, sC_, i64_w, i32_w]
                     rfl
                   refine pure_ (i := 4) (N := some 190) (v := undef) (a' := ?_) #[t_,t_,t_,t_,t_,f_,f_,f_,f_,f_,f_,f_,f_,f_,f_,f_,f_,f_,f_,f_,f_,f_,f_,f_,f_,f_,f_,f_,f_,f_] rfl rfl (any_of HT_.out (by kernel_rfl)) (fun _ _ _ h => h) (Or.inr ⟨by rfl, rfl⟩) ?_ ?_
                   rotate_left
                   · simp only [Act.put, sA_, sB_, sC_, i64_w, i32_w]
                     rfl
                   refine pure_ (i := 5) (N := some 191) (v := undef) (a' := ?_) #[t_,t_,t_,t_,t_,t_,f_,f_,f_,f_,f_,f_,f_,f_,f_,f_,f_,f_,f_,f_,f_,f_,f_,f_,f_,f_,f_,f_,f_,f_] rfl rfl (any_of HT_.out (by kernel_rfl)) (fun _ _ _ h => h) (Or.inr ⟨by rfl, rfl⟩) ?_ ?_
                   rotate_left
                   · simp only [Act.put, sA_, sB_, sC_, i64_w, i32_w]
                     rfl
                   refine pure_ (i := 6) (N := some 192) (v := undef) (a' := ?_) #[t_,t_,t_,t_,t_,t_,t_,f_,f_,f_,f_,f_,f_,f_,f_,f_,f_,f_,f_,f_,f_,f_,f_,f_,f_,f_,f_,f_,f_,f_] rfl rfl (any_of HT_.out (by kernel_rfl)) (fun _ _ _ h => h) (Or.inr ⟨by rfl, rfl⟩) ?_ ?_
                   rotate_left
                   · simp only [Act.put, sA_, sB_, sC_, i64_w, i32_w]
                     rfl
                   refine pure_ (i := 7) (N := some 193) (v := undef) (a' := ?_) #[t_,t_,t_,t_,t_,t_,t_,t_,f_,f_,f_,f_,f_,f_,f_,f_,f_,f_,f_,f_,f_,f_,f_,f_,f_,f_,f_,f_,f_,f_] rfl rfl (any_of HT_.out (by kernel_rfl)) (fun _ _ _ h => h) (Or.inr ⟨by rfl, rfl⟩) ?_ ?_
                   rotate_left
                   · simp only [Act.put, sA_, sB_, sC_, i64_w, i32_w]
                     rfl
                   refine pure_ (i := 8) (N := some 194) (v := undef) (a' := ?_) #[t_,t_,t_,t_,t_,t_,t_,t_,t_,f_,f_,f_,f_,f_,f_,f_,f_,f_,f_,f_,f_,f_,f_,f_,f_,f_,f_,f_,f_,f_] rfl rfl (any_of HT_.out (by kernel_rfl)) (fun _ _ _ h => h) (Or.inr ⟨by rfl, rfl⟩) ?_ ?_
                   rotate_left
                   · simp only [Act.put, sA_, sB_, sC_, i64_w, i32_w]
                     rfl
                   refine pure_ (i := 9) (N := some 195) (v := undef) (a' := ?_) #[t_,t_,t_,t_,t_,t_,t_,t_,t_,t_,f_,f_,f_,f_,f_,f_,f_,f_,f_,f_,f_,f_,f_,f_,f_,f_,f_,f_,f_,f_] rfl rfl (any_of HT_.out (by kernel_rfl)) (fun _ _ _ h => h) (Or.inr ⟨by rfl, rfl⟩) ?_ ?_
                   rotate_left
                   · simp only [Act.put, sA_, sB_, sC_, i64_w, i32_w]
                     rfl
                   refine pure_ (i := 10) (N := some 196) (v := undef) (a' := ?_) #[t_,t_,t_,t_,t_,t_,t_,t_,t_,t_,t_,f_,f_,f_,f_,f_,f_,f_,f_,f_,f_,f_,f_,f_,f_,f_,f_,f_,f_,f_] rfl rfl (any_of HT_.out (by kernel_rfl)) (fun _ _ _ h => h) (Or.inr ⟨by rfl, rfl⟩) ?_ ?_
                   rotate_left
                   · simp only [Act.put, sA_, sB_, sC_, i64_w, i32_w]
                     rfl
                   refine pure_ (i := 11) (N := some 197) (v := undef) (a' := ?_) #[t_,t_,t_,t_,t_,t_,t_,t_,t_,t_,t_,t_,f_,f_,f_,f_,f_,f_,f_,f_,f_,f_,f_,f_,f_,f_,f_,f_,f_,f_] rfl rfl (any_of HT_.out (by kernel_rfl)) (fun _ _ _ h => h) (Or.inr ⟨by rfl, rfl⟩) ?_ ?_
                   rotate_left
                   · simp only [Act.put, sA_, sB_, sC_, i64_w, i32_w]
                     rfl
                   refine pure_ (i := 12) (N := some 198) (v := undef) (a' := ?_) #[t_,t_,t_,t_,t_,t_,t_,t_,t_,t_,t_,t_,t_,f_,f_,f_,f_,f_,f_,f_,f_,f_,f_,f_,f_,f_,f_,f_,f_,f_] rfl rfl (any_of HT_.out (by kernel_rfl)) (fun _ _ _ h => h) (Or.inr ⟨by rfl, rfl⟩) ?_ ?_
                   rotate_left
                   · simp only [Act.put, sA_, sB_, sC_, i64_w, i32_w]
                     rfl
                   refine pure_ (i := 13) (N := some 199) (v := undef) (a' := ?_) #[t_,t_,t_,t_,t_,t_,t_,t_,t_,t_,t_,t_,t_,t_,f_,f_,f_,f_,f_,f_,f_,f_,f_,f_,f_,f_,f_,f_,f_,f_] rfl rfl (any_of HT_.out (by kernel_rfl)) (fun _ _ _ h => h) (Or.inr ⟨by rfl, rfl⟩) ?_ ?_
                   rotate_left
                   · simp only [Act.put, sA_, sB_, sC_, i64_w, i32_w]
                     rfl
                   refine pure_ (i := 14) (N := some 200) (v := undef) (a' := ?_) #[t_,t_,t_,t_,t_,t_,t_,t_,t_,t_,t_,t_,t_,t_,t_,f_,f_,f_,f_,f_,f_,f_,f_,f_,f_,f_,f_,f_,f_,f_] rfl rfl (any_of HT_.out (by kernel_rfl)) (fun _ _ _ h => h) (Or.inr ⟨by rfl, rfl⟩) ?_ ?_
                   rotate_left
                   · simp only [Act.put, sA_, sB_, sC_, i64_w, i32_w]
                     rfl
                   refine pure_ (i := 15) (N := some 201) (v := undef) (a' := ?_) #[t_,t_,t_,t_,t_,t_,t_,t_,t_,t_,t_,t_,t_,t_,t_,t_,f_,f_,f_,f_,f_,f_,f_,f_,f_,f_,f_,f_,f_,f_] rfl rfl (any_of HT_.out (by kernel_rfl)) (fun _ _ _ h => h) (Or.inr ⟨by rfl, rfl⟩) ?_ ?_
                   rotate_left
                   · simp only [Act.put, sA_, sB_, sC_, i64_w, i32_w]
                     rfl
                   refine pure_ (i := 16) (N := some 202) (v := undef) (a' := ?_) #[t_,t_,t_,t_,t_,t_,t_,t_,t_,t_,t_,t_,t_,t_,t_,t_,t_,f_,f_,f_,f_,f_,f_,f_,f_,f_,f_,f_,f_,f_] rfl rfl (any_of HT_.out (by kernel_rfl)) (fun _ _ _ h => h) (Or.inr ⟨by rfl, rfl⟩) ?_ ?_
                   rotate_left
                   · simp only [Act.put, sA_, sB_, sC_, i64_w, i32_w]
                     rfl
                   refine pure_ (i := 17) (N := some 203) (v := undef) (a' := ?_) #[t_,t_,t_,t_,t_,t_,t_,t_,t_,t_,t_,t_,t_,t_,t_,t_,t_,t_,f_,f_,f_,f_,f_,f_,f_,f_,f_,f_,f_,f_] rfl rfl (any_of HT_.out (by kernel_rfl)) (fun _ _ _ h => h) (Or.inr ⟨by rfl, rfl⟩) ?_ ?_
                   rotate_left
                   · simp only [Act.put, sA_, sB_, sC_, i64_w, i32_w]
                     rfl
                   refine pure_ (i := 18) (N := some 204) (v := undef) (a' := ?_) #[t_,t_,t_,t_,t_,t_,t_,t_,t_,t_,t_,t_,t_,t_,t_,t_,t_,t_,t_,f_,f_,f_,f_,f_,f_,f_,f_,f_,f_,f_] rfl rfl (any_of HT_.out (by kernel_rfl)) (fun _ _ _ h => h) (Or.inr ⟨by rfl, rfl⟩) ?_ ?_
                   rotate_left
                   · simp only [Act.put, sA_, sB_, sC_, i64_w, i32_w]
                     rfl
                   refine pure_ (i := 19) (N := some 205) (v := undef) (a' := ?_) #[t_,t_,t_,t_,t_,t_,t_,t_,t_,t_,t_,t_,t_,t_,t_,t_,t_,t_,t_,t_,f_,f_,f_,f_,f_,f_,f_,f_,f_,f_] rfl rfl (any_of HT_.out (by kernel_rfl)) (fun _ _ _ h => h) (Or.inr ⟨by rfl, rfl⟩) ?_ ?_
                   rotate_left
                   · simp only [Act.put, sA_, sB_, sC_, i64_w, i32_w]
                     rfl
                   refine pure_ (i := 20) (N := some 206) (v := undef) (a' := ?_) #[t_,t_,t_,t_,t_,t_,t_,t_,t_,t_,t_,t_,t_,t_,t_,t_,t_,t_,t_,t_,t_,f_,f_,f_,f_,f_,f_,f_,f_,f_] rfl rfl (any_of HT_.out (by kernel_rfl)) (fun _ _ _ h => h) (Or.inr ⟨by rfl, rfl⟩) ?_ ?_
                   rotate_left
                   · simp only [Act.put, sA_, sB_, sC_, i64_w, i32_w]
                     rfl
                   refine pure_ (i := 21) (N := some 207) (v := undef) (a' := ?_) #[t_,t_,t_,t_,t_,t_,t_,t_,t_,t_,t_,t_,t_,t_,t_,t_,t_,t_,t_,t_,t_,t_,f_,f_,f_,f_,f_,f_,f_,f_] rfl rfl (any_of HT_.out (by kernel_rfl)) (fun _ _ _ h => h) (Or.inr ⟨by rfl, rfl⟩) ?_ ?_
                   rotate_left
                   · simp only [Act.put, sA_, sB_, sC_, i64_w, i32_w]
                     rfl
                   refine pure_ (i := 22) (N := some 208) (v := undef) (a' := ?_) #[t_,t_,t_,t_,t_,t_,t_,t_,t_,t_,t_,t_,t_,t_,t_,t_,t_,t_,t_,t_,t_,t_,t_,f_,f_,f_,f_,f_,f_,f_] rfl rfl (any_of HT_.out (by kernel_rfl)) (fun _ _ _ h => h) (Or.inr ⟨by rfl, rfl⟩) ?_ ?_
                   rotate_left
                   · simp only [Act.put, sA_, sB_, sC_, i64_w, i32_w]
                     rfl
                   refine pure_ (i := 23) (N := some 209) (v := undef) (a' := ?_) #[t_,t_,t_,t_,t_,t_,t_,t_,t_,t_,t_,t_,t_,t_,t_,t_,t_,t_,t_,t_,t_,t_,t_,t_,f_,f_,f_,f_,f_,f_] rfl rfl (any_of HT_.out (by kernel_rfl)) (fun _ _ _ h => h) (Or.inr ⟨by rfl, rfl⟩) ?_ ?_
                   rotate_left
                   · simp only [Act.put, sA_, sB_, sC_, i64_w, i32_w]
                     rfl
                   refine pure_ (i := 24) (N := some 210) (v := undef) (a' := ?_) #[t_,t_,t_,t_,t_,t_,t_,t_,t_,t_,t_,t_,t_,t_,t_,t_,t_,t_,t_,t_,t_,t_,t_,t_,t_,f_,f_,f_,f_,f_] rfl rfl (any_of HT_.out (by kernel_rfl)) (fun _ _ _ h => h) (Or.inr ⟨by rfl, rfl⟩) ?_ ?_
                   rotate_left
                   · simp only [Act.put, sA_, sB_, sC_, i64_w, i32_w]
                     rfl
                   refine pure_ (i := 25) (N := some 211) (v := undef) (a' := ?_) #[t_,t_,t_,t_,t_,t_,t_,t_,t_,t_,t_,t_,t_,t_,t_,t_,t_,t_,t_,t_,t_,t_,t_,t_,t_,t_,f_,f_,f_,f_] rfl rfl (any_of HT_.out (by kernel_rfl)) (fun _ _ _ h => h) (Or.inr ⟨by rfl, rfl⟩) ?_ ?_
                   rotate_left
                   · simp only [Act.put, sA_, sB_, sC_, i64_w, i32_w]
                     rfl
                   refine pure_ (i := 26) (N := some 212) (v := undef) (a' := ?_) #[t_,t_,t_,t_,t_,t_,t_,t_,t_,t_,t_,t_,t_,t_,t_,t_,t_,t_,t_,t_,t_,t_,t_,t_,t_,t_,t_,f_,f_,f_] rfl rfl (any_of HT_.out (by kernel_rfl)) (fun _ _ _ h => h) (Or.inr ⟨by rfl, rfl⟩) ?_ ?_
                   rotate_left
                   · simp only [Act.put, sA_, sB_, sC_, i64_w, i32_w]
                     rfl
                   refine pure_ (i := 27) (N := some 213) (v := undef) (a' := ?_) #[t_,t_,t_,t_,t_,t_,t_,t_,t_,t_,t_,t_,t_,t_,t_,t_,t_,t_,t_,t_,t_,t_,t_,t_,t_,t_,t_,t_,f_,f_] rfl rfl (any_of HT_.out (by kernel_rfl)) (fun _ _ _ h => h) (Or.inr ⟨by rfl, rfl⟩) ?_ ?_
                   rotate_left
                   · simp only [Act.put, sA_, sB_, sC_, i64_w, i32_w]
                     rfl
                   refine pure_ (i := 28) (N := some 214) (v := ?_) (a' := ?_) #[t_,t_,t_,t_,t_,t_,t_,t_,t_,t_,t_,t_,t_,t_,t_,t_,t_,t_,t_,t_,t_,t_,t_,t_,t_,t_,t_,t_,t_,f_] rfl rfl (any_of HT_.out (by kernel_rfl)) (fun _ _ _ h => h) (Or.inl ⟨by rfl, ?_⟩) ?_ ?_; rotate_left; intro w'; go_simp; with_reducible rfl; rotate_left; simp only [Act.put, sA_, sB_, sC_, i64_w, i32_w]; rfl
                   refine pure_ (i := 29) (N := some 14) (v := ?_) (a' := ?_) #[t_,t_,t_,t_,t_,t_,t_,t_,t_,t_,t_,t_,t_,t_,t_,t_,t_,t_,t_,t_,t_,t_,t_,t_,t_,t_,t_,t_,t_,t_] rfl rfl (any_of HT_.out (by kernel_rfl)) (fun _ _ _ h => h) (Or.inl ⟨by rfl, ?_⟩) ?_ ?_; rotate_left; intro w'; go_simp; with_reducible rfl; rotate_left; simp only [Act.put, sA_, sB_, sC_, i64_w, i32_w]; rfl
                   refine done_ (done_of HT_.out (by kernel_rfl)) ?_
                   try go_wp2
                   go_roundg k5
                   case measure => have := HJ3.out; have := HK2.out; have := HJ22.out; have := HJ26.out; have := HK5.out; omega
                   case rel => exact ⟨(false), (wrap64 (x15_5 + 1)), (by first | rfl | (simp; done) | (simp [*]; done)), (by first | rfl | (simp; done) | (simp [*]; done)), H', ⟨by have := HJ3.out; have := HK2.out; have := HJ22.out; have := HJ26.out; have := HK5.out; omega⟩, ⟨by (with_reducible repeat (first | apply Kd.R_alloc | apply Kd.R_drewN | apply Kd.R_drew)); exact HO_6.out⟩, ⟨by (with_reducible repeat (first | apply Kd.R_alloc | apply Kd.R_drewN | apply Kd.R_drew)); exact HO_10.out⟩, ⟨by (with_reducible repeat (first | refine blk_drewN ?_ _ | refine blk_drew ?_ | refine blk_alloc ?_ _)); exact BK182.out⟩, ⟨by repeat (first | (with_reducible first | exact HB.out | apply below_alloc | apply pw_below_drewN | apply below_drew1 | refine below_set ?_ GE182.out) | exact HB.out)⟩⟩
                subst c41
                have H1 : (if x12_2 < (x6_3.length : Int) then (if ((rd_T34 x6_3 x12_2).f1) ≥ (wrap64 ((rd t189 x15_5) + (wrap64 ((wrap64 (Int.tdiv (wrap64 (((rd_T34 x6_3 x15_5).f0) + 63)) 64)) * 64)))) then (flyleaflaw13_PlaceApart.l2 k5 t183 x6_3 (wrap64 (64 * (Go.bits .and .i64 a1_0 63))) (wrap64 ((wrap64 (64 * (Go.bits .and .i64 a1_0 63))) + (wrap64 (64 * (Go.bits .and .i64 a1_1 127))))) t189 x12_2 (wrap64 ((wrap64 (Int.tdiv (wrap64 (((rd_T34 x6_3 x12_2).f0) + 63)) 64)) * 64)) true (wrap64 (x15_5 + 1))) else (flyleaflaw13_PlaceApart.l2 k5 t183 x6_3 (wrap64 (64 * (Go.bits .and .i64 a1_0 63))) (wrap64 ((wrap64 (64 * (Go.bits .and .i64 a1_0 63))) + (wrap64 (64 * (Go.bits .and .i64 a1_1 127))))) t189 x12_2 (wrap64 ((wrap64 (Int.tdiv (wrap64 (((rd_T34 x6_3 x12_2).f0) + 63)) 64)) * 64)) (decide ((rd t189 x15_5) ≥ (wrap64 (((rd_T34 x6_3 x12_2).f1) + (wrap64 ((wrap64 (Int.tdiv (wrap64 (((rd_T34 x6_3 x12_2).f0) + 63)) 64)) * 64)))))) (wrap64 (x15_5 + 1)))) else (none)) = some r := by rw [if_pos rfl] at H; exact H
                clear H
                have H := H1
                clear H1
                by_cases c42 : x12_2 < (x6_3.length : Int)
                rotate_left
                · rw [if_neg c42] at H
                  exact absurd H (by simp)
                rw [if_pos c42] at H
                have c42b0 : decide (x12_2 < (x6_3.length : Int)) = true := decide_eq_true c42
                clear c42
                by_cases c43 : ((rd_T34 x6_3 x12_2).f1) ≥ (wrap64 ((rd t189 x15_5) + (wrap64 ((wrap64 (Int.tdiv (wrap64 (((rd_T34 x6_3 x15_5).f0) + 63)) 64)) * 64))))
                · rw [if_pos c43] at H
                  have c43b0 : decide ((wrap64 ((rd t189 x15_5) + (wrap64 ((wrap64 (Int.tdiv (wrap64 (((rd_T34 x6_3 x15_5).f0) + 63)) 64)) * 64)))) ≤ ((rd_T34 x6_3 x12_2).f1)) = true := decide_eq_true c43
                  clear c43
                  as_aux_lemma =>
                   have H' := Aside0.mk H
                   clear H
                   have p200 : 0 ≤ (x15_5 : Int) := of_decide_eq_true (by first | (with_reducible assumption) | assumption)
                   have q200 : x15_5 < (x6_3.length : Int) := of_decide_eq_true (by first | (with_reducible assumption) | assumption)
                   obtain ⟨ad200, e200, hx200_0, hx200_1⟩ := at_T34 (Kd.R_reads' HO_6.out).2.2 x15_5 p200 q200
                   obtain rfl : ad193 = ad200 := (by injection e200)
                   replace p200 := eq_true p200
                   replace q200 := eq_true q200
                   try go_wp2
                   have n0_ := Aside0.mk (Kd.R_drew HO_6.out)
                   have n1_ := Aside0.mk (Kd.R_drew HO_10.out)
                   have n2_ := Aside0.mk (blk_drew BK182.out)
                   have n3_ := Aside0.mk (below_drew1 HB.out)
                   clear HO_6
                   clear HO_10
                   clear BK182
                   clear HB
                   have HO_6 := n0_
                   have HO_10 := n1_
                   have BK182 := n2_
                   have HB := n3_
                   clear n0_ n1_ n2_ n3_
                   have p201 : 0 ≤ (x12_2 : Int) := of_decide_eq_true (by first | (with_reducible assumption) | assumption)
                   have q201 : x12_2 < (t189.length : Int) := of_decide_eq_true (by first | (with_reducible assumption) | assumption)
                   obtain ⟨ad201, e201, hx201_0⟩ := Kd.at_int (Kd.R_reads' HO_10.out).2.2 x12_2 p201 q201
                   cases e201
                   replace p201 := eq_true p201
                   replace q201 := eq_true q201
                   have p202 : 0 ≤ (x15_5 : Int) := of_decide_eq_true (by first | (with_reducible assumption) | assumption)
                   have q202 : x15_5 < (t189.length : Int) := of_decide_eq_true (by first | (with_reducible assumption) | assumption)
                   obtain ⟨ad202, e202, hx202_0⟩ := Kd.at_int (Kd.R_reads' HO_10.out).2.2 x15_5 p202 q202
                   obtain rfl : ad201 = ad202 := (by injection e202)
                   replace p202 := eq_true p202
                   replace q202 := eq_true q202
                   have p203 : 0 ≤ (x15_5 : Int) := of_decide_eq_true (by first | (with_reducible assumption) | assumption)
                   have q203 : x15_5 < (t189.length : Int) := of_decide_eq_true (by first | (with_reducible assumption) | assumption)
                   obtain ⟨ad203, e203, hx203_0⟩ := Kd.at_int (Kd.R_reads' HO_10.out).2.2 x15_5 p203 q203
                   obtain rfl : ad201 = ad203 := (by injection e203)
                   replace p203 := eq_true p203
                   replace q203 := eq_true q203
                   have p204 : 0 ≤ (x12_2 : Int) := of_decide_eq_true (by first | (with_reducible assumption) | assumption)
                   have q204 : x12_2 < (t189.length : Int) := of_decide_eq_true (by first | (with_reducible assumption) | assumption)
                   obtain ⟨ad204, e204, hx204_0⟩ := Kd.at_int (Kd.R_reads' HO_10.out).2.2 x12_2 p204 q204
                   obtain rfl : ad201 = ad204 := (by injection e204)
                   replace p204 := eq_true p204
                   replace q204 := eq_true q204
                   refine start_ (n := 24) (S := fun w' => w'.cell? (ad201.add (x12_2).toNat) = some (.int .i64 (rd t189 x12_2)) ∧ w'.cell? (ad201.add (x15_5).toNat) = some (.int .i64 (rd t189 x15_5)) ∧ w'.cell? (ad201.add (x15_5).toNat) = some (.int .i64 (rd t189 x15_5)) ∧ w'.cell? (ad201.add (x12_2).toNat) = some (.int .i64 (rd t189 x12_2))) (ds := []) #[f_,f_,f_,f_,f_,f_,f_,f_,f_,f_,f_,f_,f_,f_,f_,f_,f_,f_,f_,f_,f_,f_,f_,f_] (by kernel_rfl) rfl rfl ⟨hx201_0, hx202_0, hx203_0, hx204_0⟩ (fun hHeld => ?_); refine with_tabW flyleaflaw13_PlaceApart.tab25 flyleaflaw13_PlaceApart.bits25 (fun HT_ HW_ => ?_)
                   generalize wr.drew = w44 at HO_6 HO_10 BK182 HB hx201_0 hx202_0 hx203_0 hx204_0 hHeld ⊢
                   refine pure_ (i := 0) (N := some 162) (v := ?_) (a' := ?_) #[t_,f_,f_,f_,f_,f_,f_,f_,f_,f_,f_,f_,f_,f_,f_,f_,f_,f_,f_,f_,f_,f_,f_,f_] rfl rfl (any_of HT_.out (by kernel_rfl)) (fun _ _ _ h => h) (Or.inl ⟨by rfl, ?_⟩) ?_ ?_; rotate_left; intro w'; go_simp; with_reducible rfl; rotate_left; simp only [Act.put, sA_, sB_, sC_, i64_w, i32_w]; rfl
                   refine pure_ (i := 1) (N := some 163) (v := ?_) (a' := ?_) #[t_,t_,f_,f_,f_,f_,f_,f_,f_,f_,f_,f_,f_,f_,f_,f_,f_,f_,f_,f_,f_,f_,f_,f_] rfl rfl (any_of HT_.out (by kernel_rfl)) (fun _ _ _ h => h) (Or.inl ⟨by rfl, ?_⟩) ?_ ?_; rotate_left; intro w'; go_simp; with_reducible rfl; rotate_left; simp only [Act.put, sA_, sB_, sC_, i64_w, i32_w]; rfl
                   refine pure_ (i := 2) (N := some 164) (v := ?_) (a' := ?_) #[t_,t_,t_,f_,f_,f_,f_,f_,f_,f_,f_,f_,f_,f_,f_,f_,f_,f_,f_,f_,f_,f_,f_,f_] rfl rfl (any_of HT_.out (by kernel_rfl)) (fun _ _ _ h => h) (Or.inl ⟨by rfl, ?_⟩) ?_ ?_; rotate_left; intro w'; go_simp; with_reducible rfl; rotate_left; simp only [Act.put, sA_, sB_, sC_, i64_w, i32_w]; rfl
                   refine pure_ (i := 4) (N := some 166) (v := ?_) (a' := ?_) #[t_,t_,t_,f_,t_,f_,f_,f_,f_,f_,f_,f_,f_,f_,f_,f_,f_,f_,f_,f_,f_,f_,f_,f_] rfl rfl (any_of HT_.out (by kernel_rfl)) (fun _ _ _ h => h) (Or.inl ⟨by rfl, ?_⟩) ?_ ?_; rotate_left; intro w'; go_simp; with_reducible rfl; rotate_left; simp only [Act.put, sA_, sB_, sC_, i64_w, i32_w]; rfl
                   refine pure_ (i := 5) (N := some 167) (v := ?_) (a' := ?_) #[t_,t_,t_,f_,t_,t_,f_,f_,f_,f_,f_,f_,f_,f_,f_,f_,f_,f_,f_,f_,f_,f_,f_,f_] rfl rfl (any_of HT_.out (by kernel_rfl)) (fun _ _ _ h => h) (Or.inl ⟨by rfl, ?_⟩) ?_ ?_; rotate_left; intro w'; go_simp; with_reducible rfl; rotate_left; simp only [Act.put, sA_, sB_, sC_, i64_w, i32_w]; rfl
                   refine pure_ (i := 6) (N := some 168) (v := ?_) (a' := ?_) #[t_,t_,t_,f_,t_,t_,t_,f_,f_,f_,f_,f_,f_,f_,f_,f_,f_,f_,f_,f_,f_,f_,f_,f_] rfl rfl (any_of HT_.out (by kernel_rfl)) (fun _ _ _ h => h) (Or.inl ⟨by rfl, ?_⟩) ?_ ?_; rotate_left; intro w'; go_simp; with_reducible rfl; rotate_left; simp only [Act.put, sA_, sB_, sC_, i64_w, i32_w]; rfl
                   refine pure_ (i := 8) (N := some 170) (v := ?_) (a' := ?_) #[t_,t_,t_,f_,t_,t_,t_,f_,t_,f_,f_,f_,f_,f_,f_,f_,f_,f_,f_,f_,f_,f_,f_,f_] rfl rfl (any_of HT_.out (by kernel_rfl)) (fun _ _ _ h => h) (Or.inl ⟨by rfl, ?_⟩) ?_ ?_; rotate_left; intro w'; go_simp; with_reducible rfl; rotate_left; simp only [Act.put, sA_, sB_, sC_, i64_w, i32_w]; rfl
                   refine take_ (i := 3) (N := some 165) (v := ?_) (a' := ?_) #[t_,t_,t_,t_,t_,t_,t_,f_,t_,f_,f_,f_,f_,f_,f_,f_,f_,f_,f_,f_,f_,f_,f_,f_] rfl rfl (take_ofW HT_.out HW_.out (by kernel_rfl)) (fun _ _ _ h => h) (Or.inl ⟨by rfl, ?_⟩) hHeld ?_ ?_; rotate_left; rintro w' ⟨s0, s1, s2, s3⟩; go_simp; with_reducible rfl; rotate_left; simp only [Act.put, sA_, sB_, sC_, i64_w, i32_w]; rfl
                   refine take_ (i := 7) (N := some 169) (v := ?_) (a' := ?_) #[t_,t_,t_,t_,t_,t_,t_,t_,t_,f_,f_,f_,f_,f_,f_,f_,f_,f_,f_,f_,f_,f_,f_,f_] rfl rfl (take_ofW HT_.out HW_.out (by kernel_rfl)) (fun _ _ _ h => h) (Or.inl ⟨by rfl, ?_⟩) hHeld ?_ ?_; rotate_left; rintro w' ⟨s0, s1, s2, s3⟩; go_simp; with_reducible rfl; rotate_left; simp only [Act.put, sA_, sB_, sC_, i64_w, i32_w]; rfl
                   refine pure_ (i := 9) (N := some 171) (v := ?_) (a' := ?_) #[t_,t_,t_,t_,t_,t_,t_,t_,t_,t_,f_,f_,f_,f_,f_,f_,f_,f_,f_,f_,f_,f_,f_,f_] rfl rfl (any_of HT_.out (by kernel_rfl)) (fun _ _ _ h => h) (Or.inl ⟨by rfl, ?_⟩) ?_ ?_; rotate_left; intro w'; go_simp; with_reducible rfl; rotate_left; simp only [Act.put, sA_, sB_, sC_, i64_w, i32_w]; rfl
                   refine pure_ (i := 10) (N := some 172) (v := ?_) (a' := ?_) #[t_,t_,t_,t_,t_,t_,t_,t_,t_,t_,t_,f_,f_,f_,f_,f_,f_,f_,f_,f_,f_,f_,f_,f_] rfl rfl (any_of HT_.out (by kernel_rfl)) (fun _ _ _ h => h) (Or.inl ⟨by rfl, ?_⟩) ?_ ?_; rotate_left; intro w'; go_simp; with_reducible rfl; rotate_left; simp only [Act.put, sA_, sB_, sC_, i64_w, i32_w]; rfl
                   refine pure_ (i := 11) (N := some 173) (v := ?_) (a' := ?_) #[t_,t_,t_,t_,t_,t_,t_,t_,t_,t_,t_,t_,f_,f_,f_,f_,f_,f_,f_,f_,f_,f_,f_,f_] rfl rfl (any_of HT_.out (by kernel_rfl)) (fun _ _ _ h => h) (Or.inl ⟨by rfl, ?_⟩) ?_ ?_; rotate_left; intro w'; go_simp; with_reducible rfl; rotate_left; simp only [Act.put, sA_, sB_, sC_, i64_w, i32_w]; rfl
                   refine pure_ (i := 12) (N := some 174) (v := ?_) (a' := ?_) #[t_,t_,t_,t_,t_,t_,t_,t_,t_,t_,t_,t_,t_,f_,f_,f_,f_,f_,f_,f_,f_,f_,f_,f_] rfl rfl (any_of HT_.out (by kernel_rfl)) (fun _ _ _ h => h) (Or.inl ⟨by rfl, ?_⟩) ?_ ?_; rotate_left; intro w'; go_simp; with_reducible rfl; rotate_left; simp only [Act.put, sA_, sB_, sC_, i64_w, i32_w]; rfl
                   refine pure_ (i := 13) (N := some 175) (v := ?_) (a' := ?_) #[t_,t_,t_,t_,t_,t_,t_,t_,t_,t_,t_,t_,t_,t_,f_,f_,f_,f_,f_,f_,f_,f_,f_,f_] rfl rfl (any_of HT_.out (by kernel_rfl)) (fun _ _ _ h => h) (Or.inl ⟨by rfl, ?_⟩) ?_ ?_; rotate_left; intro w'; go_simp; with_reducible rfl; rotate_left; simp only [Act.put, sA_, sB_, sC_, i64_w, i32_w]; rfl
                   refine pure_ (i := 14) (N := some 176) (v := ?_) (a' := ?_) #[t_,t_,t_,t_,t_,t_,t_,t_,t_,t_,t_,t_,t_,t_,t_,f_,f_,f_,f_,f_,f_,f_,f_,f_] rfl rfl (any_of HT_.out (by kernel_rfl)) (fun _ _ _ h => h) (Or.inl ⟨by rfl, ?_⟩) ?_ ?_; rotate_left; intro w'; go_simp; with_reducible rfl; rotate_left; simp only [Act.put, sA_, sB_, sC_, i64_w, i32_w]; rfl
                   refine pure_ (i := 16) (N := some 178) (v := ?_) (a' := ?_) #[t_,t_,t_,t_,t_,t_,t_,t_,t_,t_,t_,t_,t_,t_,t_,f_,t_,f_,f_,f_,f_,f_,f_,f_] rfl rfl (any_of HT_.out (by kernel_rfl)) (fun _ _ _ h => h) (Or.inl ⟨by rfl, ?_⟩) ?_ ?_; rotate_left; intro w'; go_simp; with_reducible rfl; rotate_left; simp only [Act.put, sA_, sB_, sC_, i64_w, i32_w]; rfl
                   refine pure_ (i := 17) (N := some 179) (v := ?_) (a' := ?_) #[t_,t_,t_,t_,t_,t_,t_,t_,t_,t_,t_,t_,t_,t_,t_,f_,t_,t_,f_,f_,f_,f_,f_,f_] rfl rfl (any_of HT_.out (by kernel_rfl)) (fun _ _ _ h => h) (Or.inl ⟨by rfl, ?_⟩) ?_ ?_; rotate_left; intro w'; go_simp; with_reducible rfl; rotate_left; simp only [Act.put, sA_, sB_, sC_, i64_w, i32_w]; rfl
                   refine pure_ (i := 18) (N := some 180) (v := ?_) (a' := ?_) #[t_,t_,t_,t_,t_,t_,t_,t_,t_,t_,t_,t_,t_,t_,t_,f_,t_,t_,t_,f_,f_,f_,f_,f_] rfl rfl (any_of HT_.out (by kernel_rfl)) (fun _ _ _ h => h) (Or.inl ⟨by rfl, ?_⟩) ?_ ?_; rotate_left; intro w'; go_simp; with_reducible rfl; rotate_left; simp only [Act.put, sA_, sB_, sC_, i64_w, i32_w]; rfl
                   refine pure_ (i := 20) (N := some 182) (v := ?_) (a' := ?_) #[t_,t_,t_,t_,t_,t_,t_,t_,t_,t_,t_,t_,t_,t_,t_,f_,t_,t_,t_,f_,t_,f_,f_,f_] rfl rfl (any_of HT_.out (by kernel_rfl)) (fun _ _ _ h => h) (Or.inl ⟨by rfl, ?_⟩) ?_ ?_; rotate_left; intro w'; go_simp; with_reducible rfl; rotate_left; simp only [Act.put, sA_, sB_, sC_, i64_w, i32_w]; rfl
                   refine take_ (i := 15) (N := some 177) (v := ?_) (a' := ?_) #[t_,t_,t_,t_,t_,t_,t_,t_,t_,t_,t_,t_,t_,t_,t_,t_,t_,t_,t_,f_,t_,f_,f_,f_] rfl rfl (take_ofW HT_.out HW_.out (by kernel_rfl)) (fun _ _ _ h => h) (Or.inl ⟨by rfl, ?_⟩) hHeld ?_ ?_; rotate_left; rintro w' ⟨s0, s1, s2, s3⟩; go_simp; with_reducible rfl; rotate_left; simp only [Act.put, sA_, sB_, sC_, i64_w, i32_w]; rfl
                   refine take_ (i := 19) (N := some 181) (v := ?_) (a' := ?_) #[t_,t_,t_,t_,t_,t_,t_,t_,t_,t_,t_,t_,t_,t_,t_,t_,t_,t_,t_,t_,t_,f_,f_,f_] rfl rfl (take_ofW HT_.out HW_.out (by kernel_rfl)) (fun _ _ _ h => h) (Or.inl ⟨by rfl, ?_⟩) hHeld ?_ ?_; rotate_left; rintro w' ⟨s0, s1, s2, s3⟩; go_simp; with_reducible rfl; rotate_left; simp only [Act.put, sA_, sB_, sC_, i64_w, i32_w]; rfl
                   refine pure_ (i := 21) (N := some 183) (v := ?_) (a' := ?_) #[t_,t_,t_,t_,t_,t_,t_,t_,t_,t_,t_,t_,t_,t_,t_,t_,t_,t_,t_,t_,t_,t_,f_,f_] rfl rfl (any_of HT_.out (by kernel_rfl)) (fun _ _ _ h => h) (Or.inl ⟨by rfl, ?_⟩) ?_ ?_; rotate_left; intro w'; go_simp; with_reducible rfl; rotate_left; simp only [Act.put, sA_, sB_, sC_, i64_w, i32_w]; rfl
                   refine pure_ (i := 22) (N := some 184) (v := ?_) (a' := ?_) #[t_,t_,t_,t_,t_,t_,t_,t_,t_,t_,t_,t_,t_,t_,t_,t_,t_,t_,t_,t_,t_,t_,t_,f_] rfl rfl (any_of HT_.out (by kernel_rfl)) (fun _ _ _ h => h) (Or.inl ⟨by rfl, ?_⟩) ?_ ?_; rotate_left; intro w'; go_simp; with_reducible rfl; rotate_left; simp only [Act.put, sA_, sB_, sC_, i64_w, i32_w]; rfl
                   refine pure_ (i := 23) (N := some 185) (v := ?_) (a' := ?_) #[t_,t_,t_,t_,t_,t_,t_,t_,t_,t_,t_,t_,t_,t_,t_,t_,t_,t_,t_,t_,t_,t_,t_,t_] rfl rfl (any_of HT_.out (by kernel_rfl)) (fun _ _ _ h => h) (Or.inl ⟨by rfl, ?_⟩) ?_ ?_; rotate_left; intro w'; go_simp; with_reducible rfl; rotate_left; simp only [Act.put, sA_, sB_, sC_, i64_w, i32_w]; rfl
                   refine done_ (done_of HT_.out (by kernel_rfl)) ?_
                   try go_wp2
                   have n0_ := Aside0.mk (Kd.R_drew HO_6.out)
                   have n1_ := Aside0.mk (Kd.R_drew HO_10.out)
                   have n2_ := Aside0.mk (blk_drew BK182.out)
                   have n3_ := Aside0.mk (below_drew1 HB.out)
                   clear HO_6
                   clear HO_10
                   clear BK182
                   clear HB
                   have HO_6 := n0_
                   have HO_10 := n1_
                   have BK182 := n2_
                   have HB := n3_
                   clear n0_ n1_ n2_ n3_
                   have p205 : 0 ≤ (x12_2 : Int) := of_decide_eq_true (by first | (with_reducible assumption) | assumption)
                   have q205 : x12_2 < (x6_3.length : Int) := of_decide_eq_true (by first | (with_reducible assumption) | assumption)
                   obtain ⟨ad205, e205, hx205_0, hx205_1⟩ := at_T34 (Kd.R_reads' HO_6.out).2.2 x12_2 p205 q205
                   obtain rfl : ad193 = ad205 := (by injection e205)
                   replace p205 := eq_true p205
                   replace q205 := eq_true q205
                   have p206 : 0 ≤ (x15_5 : Int) := of_decide_eq_true (by first | (with_reducible assumption) | assumption)
                   have q206 : x15_5 < (t189.length : Int) := of_decide_eq_true (by first | (with_reducible assumption) | assumption)
                   obtain ⟨ad206, e206, hx206_0⟩ := Kd.at_int (Kd.R_reads' HO_10.out).2.2 x15_5 p206 q206
                   obtain rfl : ad201 = ad206 := (by injection e206)
                   replace p206 := eq_true p206
                   replace q206 := eq_true q206
                   refine start_ (n := 30) (S := fun w' => w'.cell? (ad193.add ((x12_2).toNat * 2)) = some (.int .i64 ((rd_T34 x6_3 x12_2).f0)) ∧ w'.cell? ⟨(ad193.add ((x12_2).toNat * 2)).block, (ad193.add ((x12_2).toNat * 2)).off + 1, none⟩ = some (.int .i64 ((rd_T34 x6_3 x12_2).f1)) ∧ w'.cell? (ad201.add (x15_5).toNat) = some (.int .i64 (rd t189 x15_5))) (ds := []) #[f_,f_,f_,f_,f_,f_,f_,f_,f_,f_,f_,f_,f_,f_,f_,f_,f_,f_,f_,f_,f_,f_,f_,f_,f_,f_,f_,f_,f_,f_] (by kernel_rfl) rfl rfl ⟨hx205_0, hx205_1, hx206_0⟩ (fun hHeld => ?_); refine with_tabW flyleaflaw13_PlaceApart.tab27 flyleaflaw13_PlaceApart.bits27 (fun HT_ HW_ => ?_)
                   generalize w44.drew = w45 at HO_6 HO_10 BK182 HB hx205_0 hx205_1 hx206_0 hHeld ⊢
                   refine pure_ (i := 0) (N := some 186) (v := ?_) (a' := ?_) #[t_,f_,f_,f_,f_,f_,f_,f_,f_,f_,f_,f_,f_,f_,f_,f_,f_,f_,f_,f_,f_,f_,f_,f_,f_,f_,f_,f_,f_,f_] rfl rfl (any_of HT_.out (by kernel_rfl)) (fun _ _ _ h => h) (Or.inl ⟨by rfl, ?_⟩) ?_ ?_; rotate_left; intro w'; go_simp; with_reducible rfl; rotate_left; simp only [Act.put, sA_, sB_, sC_, i64_w, i32_w]; rfl
                   refine pure_ (i := 1) (N := some 187) (v := ?_) (a' := ?_) #[t_,t_,f_,f_,f_,f_,f_,f_,f_,f_,f_,f_,f_,f_,f_,f_,f_,f_,f_,f_,f_,f_,f_,f_,f_,f_,f_,f_,f_,f_] rfl rfl (any_of HT_.out (by kernel_rfl)) (fun _ _ _ h => h) (Or.inl ⟨by rfl, ?_⟩) ?_ ?_; rotate_left; intro w'; go_simp; with_reducible rfl; rotate_left; simp only [Act.put, sA_, sB_, sC_, i64_w, i32_w]; rfl
                   refine pure_ (i := 2) (N := some 188) (v := ?_) (a' := ?_) #[t_,t_,t_,f_,f_,f_,f_,f_,f_,f_,f_,f_,f_,f_,f_,f_,f_,f_,f_,f_,f_,f_,f_,f_,f_,f_,f_,f_,f_,f_] rfl rfl (any_of HT_.out (by kernel_rfl)) (fun _ _ _ h => h) (Or.inl ⟨by rfl, ?_⟩) ?_ ?_; rotate_left; intro w'; go_simp; with_reducible rfl; rotate_left; simp only [Act.put, sA_, sB_, sC_, i64_w, i32_w]; rfl
                   refine pure_ (i := 3) (N := some 189) (v := ?_) (a' := ?_) #[t_,t_,t_,t_,f_,f_,f_,f_,f_,f_,f_,f_,f_,f_,f_,f_,f_,f_,f_,f_,f_,f_,f_,f_,f_,f_,f_,f_,f_,f_] rfl rfl (any_of HT_.out (by kernel_rfl)) (fun _ _ _ h => h) (Or.inl ⟨by rfl, ?_⟩) ?_ ?_; rotate_left; intro w'; go_simp; with_reducible rfl; rotate_left; simp only [Act.put, sA_, sB_, sC_, i64_w, i32_w]; rfl
                   refine pure_ (i := 4) (N := some 190) (v := ?_) (a' := ?_) #[t_,t_,t_,t_,t_,f_,f_,f_,f_,f_,f_,f_,f_,f_,f_,f_,f_,f_,f_,f_,f_,f_,f_,f_,f_,f_,f_,f_,f_,f_] rfl rfl (any_of HT_.out (by kernel_rfl)) (fun _ _ _ h => h) (Or.inl ⟨by rfl, ?_⟩) ?_ ?_; rotate_left; intro w'; go_simp; with_reducible rfl; rotate_left; simp only [Act.put, sA_, sB_, sC_, i64_w, i32_w]; rfl
                   refine pure_ (i := 5) (N := some 191) (v := ?_) (a' := ?_) #[t_,t_,t_,t_,t_,t_,f_,f_,f_,f_,f_,f_,f_,f_,f_,f_,f_,f_,f_,f_,f_,f_,f_,f_,f_,f_,f_,f_,f_,f_] rfl rfl (any_of HT_.out (by kernel_rfl)) (fun _ _ _ h => h) (Or.inl ⟨by rfl, ?_⟩) ?_ ?_; rotate_left; intro w'; go_simp; with_reducible rfl; rotate_left; simp only [Act.put, sA_, sB_, sC_, i64_w, i32_w]; rfl
                   refine pure_ (i := 7) (N := some 193) (v := ?_) (a' := ?_) #[t_,t_,t_,t_,t_,t_,f_,t_,f_,f_,f_,f_,f_,f_,f_,f_,f_,f_,f_,f_,f_,f_,f_,f_,f_,f_,f_,f_,f_,f_] rfl rfl (any_of HT_.out (by kernel_rfl)) (fun _ _ _ h => h) (Or.inl ⟨by rfl, ?_⟩) ?_ ?_; rotate_left; intro w'; go_simp; with_reducible rfl; rotate_left; simp only [Act.put, sA_, sB_, sC_, i64_w, i32_w]; rfl
                   refine pure_ (i := 8) (N := some 194) (v := ?_) (a' := ?_) #[t_,t_,t_,t_,t_,t_,f_,t_,t_,f_,f_,f_,f_,f_,f_,f_,f_,f_,f_,f_,f_,f_,f_,f_,f_,f_,f_,f_,f_,f_] rfl rfl (any_of HT_.out (by kernel_rfl)) (fun _ _ _ h => h) (Or.inl ⟨by rfl, ?_⟩) ?_ ?_; rotate_left; intro w'; go_simp; with_reducible rfl; rotate_left; simp only [Act.put, sA_, sB_, sC_, i64_w, i32_w]; rfl
                   refine pure_ (i := 9) (N := some 195) (v := ?_) (a' := ?_) #[t_,t_,t_,t_,t_,t_,f_,t_,t_,t_,f_,f_,f_,f_,f_,f_,f_,f_,f_,f_,f_,f_,f_,f_,f_,f_,f_,f_,f_,f_] rfl rfl (any_of HT_.out (by kernel_rfl)) (fun _ _ _ h => h) (Or.inl ⟨by rfl, ?_⟩) ?_ ?_; rotate_left; intro w'; go_simp; with_reducible rfl; rotate_left; simp only [Act.put, sA_, sB_, sC_, i64_w, i32_w]; rfl
                   refine pure_ (i := 11) (N := some 197) (v := ?_) (a' := ?_) #[t_,t_,t_,t_,t_,t_,f_,t_,t_,t_,f_,t_,f_,f_,f_,f_,f_,f_,f_,f_,f_,f_,f_,f_,f_,f_,f_,f_,f_,f_] rfl rfl (any_of HT_.out (by kernel_rfl)) (fun _ _ _ h => h) (Or.inl ⟨by rfl, ?_⟩) ?_ ?_; rotate_left; intro w'; go_simp; with_reducible rfl; rotate_left; simp only [Act.put, sA_, sB_, sC_, i64_w, i32_w]; rfl
                   refine take_ (i := 6) (N := some 192) (v := ?_) (a' := ?_) #[t_,t_,t_,t_,t_,t_,t_,t_,t_,t_,f_,t_,f_,f_,f_,f_,f_,f_,f_,f_,f_,f_,f_,f_,f_,f_,f_,f_,f_,f_] rfl rfl (take_ofW HT_.out HW_.out (by kernel_rfl)) (fun _ _ _ h => h) (Or.inl ⟨by rfl, ?_⟩) hHeld ?_ ?_; rotate_left; rintro w' ⟨s0, s1, s2⟩; go_simp; with_reducible rfl; rotate_left; simp only [Act.put, sA_, sB_, sC_, i64_w, i32_w]; rfl
                   refine take_ (i := 10) (N := some 196) (v := ?_) (a' := ?_) #[t_,t_,t_,t_,t_,t_,t_,t_,t_,t_,t_,t_,f_,f_,f_,f_,f_,f_,f_,f_,f_,f_,f_,f_,f_,f_,f_,f_,f_,f_] rfl rfl (take_ofW HT_.out HW_.out (by kernel_rfl)) (fun _ _ _ h => h) (Or.inl ⟨by rfl, ?_⟩) hHeld ?_ ?_; rotate_left; rintro w' ⟨s0, s1, s2⟩; go_simp; with_reducible rfl; rotate_left; simp only [Act.put, sA_, sB_, sC_, i64_w, i32_w]; rfl
                   refine pure_ (i := 12) (N := some 198) (v := ?_) (a' := ?_) #[t_,t_,t_,t_,t_,t_,t_,t_,t_,t_,t_,t_,t_,f_,f_,f_,f_,f_,f_,f_,f_,f_,f_,f_,f_,f_,f_,f_,f_,f_] rfl rfl (any_of HT_.out (by kernel_rfl)) (fun _ _ _ h => h) (Or.inl ⟨by rfl, ?_⟩) ?_ ?_; rotate_left; intro w'; go_simp; with_reducible rfl; rotate_left; simp only [Act.put, sA_, sB_, sC_, i64_w, i32_w]; rfl
                   refine pure_ (i := 13) (N := some 199) (v := ?_) (a' := ?_) #[t_,t_,t_,t_,t_,t_,t_,t_,t_,t_,t_,t_,t_,t_,f_,f_,f_,f_,f_,f_,f_,f_,f_,f_,f_,f_,f_,f_,f_,f_] rfl rfl (any_of HT_.out (by kernel_rfl)) (fun _ _ _ h => h) (Or.inl ⟨by rfl, ?_⟩) ?_ ?_; rotate_left; intro w'; go_simp; with_reducible rfl; rotate_left; simp only [Act.put, sA_, sB_, sC_, i64_w, i32_w]; rfl
                   refine pure_ (i := 14) (N := some 200) (v := ?_) (a' := ?_) #[t_,t_,t_,t_,t_,t_,t_,t_,t_,t_,t_,t_,t_,t_,t_,f_,f_,f_,f_,f_,f_,f_,f_,f_,f_,f_,f_,f_,f_,f_] rfl rfl (any_of HT_.out (by kernel_rfl)) (fun _ _ _ h => h) (Or.inl ⟨by rfl, ?_⟩) ?_ ?_; rotate_left; intro w'; go_simp; with_reducible rfl; rotate_left; simp only [Act.put, sA_, sB_, sC_, i64_w, i32_w]; rfl
                   refine pure_ (i := 15) (N := some 201) (v := undef) (a' := ?_) #[t_,t_,t_,t_,t_,t_,t_,t_,t_,t_,t_,t_,t_,t_,t_,t_,f_,f_,f_,f_,f_,f_,f_,f_,f_,f_,f_,f_,f_,f_] rfl rfl (any_of HT_.out (by kernel_rfl)) (fun _ _ _ h => h) (Or.inr ⟨by rfl, rfl⟩) ?_ ?_
                   rotate_left
                   · simp only [Act.put, sA_, sB_, sC_, i64_w, i32_w]
                     rfl
                   refine pure_ (i := 16) (N := some 202) (v := undef) (a' := ?_) #[t_,t_,t_,t_,t_,t_,t_,t_,t_,t_,t_,t_,t_,t_,t_,t_,t_,f_,f_,f_,f_,f_,f_,f_,f_,f_,f_,f_,f_,f_] rfl rfl (any_of HT_.out (by kernel_rfl)) (fun _ _ _ h => h) (Or.inr ⟨by rfl, rfl⟩) ?_ ?_
                   rotate_left
                   · simp only [Act.put, sA_, sB_, sC_, i64_w, i32_w]
                     rfl
                   refine pure_ (i := 17) (N := some 203) (v := undef) (a' := ?_) #[t_,t_,t_,t_,t_,t_,t_,t_,t_,t_,t_,t_,t_,t_,t_,t_,t_,t_,f_,f_,f_,f_,f_,f_,f_,f_,f_,f_,f_,f_] rfl rfl (any_of HT_.out (by kernel_rfl)) (fun _ _ _ h => h) (Or.inr ⟨by rfl, rfl⟩) ?_ ?_
                   rotate_left
                   · simp only [Act.put, sA_, sB_, sC_, i64_w, i32_w]
                     rfl
                   refine pure_ (i := 18) (N := some 204) (v := undef) (a' := ?_) #[t_,t_,t_,t_,t_,t_,t_,t_,t_,t_,t_,t_,t_,t_,t_,t_,t_,t_,t_,f_,f_,f_,f_,f_,f_,f_,f_,f_,f_,f_] rfl rfl (any_of HT_.out (by kernel_rfl)) (fun _ _ _ h => h) (Or.inr ⟨by rfl, rfl⟩) ?_ ?_
                   rotate_left
                   · simp only [Act.put, sA_, sB_, sC_, i64_w, i32_w]
                     rfl
                   refine pure_ (i := 19) (N := some 205) (v := undef) (a' := ?_) #[t_,t_,t_,t_,t_,t_,t_,t_,t_,t_,t_,t_,t_,t_,t_,t_,t_,t_,t_,t_,f_,f_,f_,f_,f_,f_,f_,f_,f_,f_] rfl rfl (any_of HT_.out (by kernel_rfl)) (fun _ _ _ h => h) (Or.inr ⟨by rfl, rfl⟩) ?_ ?_
                   rotate_left
                   · simp only [Act.put, sA_, sB_, sC_, i64_w, i32_w]
                     rfl
                   refine pure_ (i := 20) (N := some 206) (v := undef) (a' := ?_) #[t_,t_,t_,t_,t_,t_,t_,t_,t_,t_,t_,t_,t_,t_,t_,t_,t_,t_,t_,t_,t_,f_,f_,f_,f_,f_,f_,f_,f_,f_] rfl rfl (any_of HT_.out (by kernel_rfl)) (fun _ _ _ h => h) (Or.inr ⟨by rfl, rfl⟩) ?_ ?_
                   rotate_left
                   · simp only [Act.put, sA_, sB_, sC_, i64_w, i32_w]
                     rfl
                   refine pure_ (i := 21) (N := some 207) (v := undef) (a' := ?_) #[t_,t_,t_,t_,t_,t_,t_,t_,t_,t_,t_,t_,t_,t_,t_,t_,t_,t_,t_,t_,t_,t_,f_,f_,f_,f_,f_,f_,f_,f_] rfl rfl (any_of HT_.out (by kernel_rfl)) (fun _ _ _ h => h) (Or.inr ⟨by rfl, rfl⟩) ?_ ?_
                   rotate_left
                   · simp only [Act.put, sA_, sB_, sC_, i64_w, i32_w]
                     rfl
                   refine pure_ (i := 22) (N := some 208) (v := undef) (a' := ?_) #[t_,t_,t_,t_,t_,t_,t_,t_,t_,t_,t_,t_,t_,t_,t_,t_,t_,t_,t_,t_,t_,t_,t_,f_,f_,f_,f_,f_,f_,f_] rfl rfl (any_of HT_.out (by kernel_rfl)) (fun _ _ _ h => h) (Or.inr ⟨by rfl, rfl⟩) ?_ ?_
                   rotate_left
                   · simp only [Act.put, sA_, sB_, sC_, i64_w, i32_w]
                     rfl
                   refine pure_ (i := 23) (N := some 209) (v := undef) (a' := ?_) #[t_,t_,t_,t_,t_,t_,t_,t_,t_,t_,t_,t_,t_,t_,t_,t_,t_,t_,t_,t_,t_,t_,t_,t_,f_,f_,f_,f_,f_,f_] rfl rfl (any_of HT_.out (by kernel_rfl)) (fun _ _ _ h => h) (Or.inr ⟨by rfl, rfl⟩) ?_ ?_
                   rotate_left
                   · simp only [Act.put, sA_, sB_, sC_, i64_w, i32_w]
                     rfl
                   refine pure_ (i := 24) (N := some 210) (v := undef) (a' := ?_) #[t_,t_,t_,t_,t_,t_,t_,t_,t_,t_,t_,t_,t_,t_,t_,t_,t_,t_,t_,t_,t_,t_,t_,t_,t_,f_,f_,f_,f_,f_] rfl rfl (any_of HT_.out (by kernel_rfl)) (fun _ _ _ h => h) (Or.inr ⟨by rfl, rfl⟩) ?_ ?_
                   rotate_left
                   · simp only [Act.put, sA_, sB_, sC_, i64_w, i32_w]
                     rfl
                   refine pure_ (i := 25) (N := some 211) (v := undef) (a' := ?_) #[t_,t_,t_,t_,t_,t_,t_,t_,t_,t_,t_,t_,t_,t_,t_,t_,t_,t_,t_,t_,t_,t_,t_,t_,t_,t_,f_,f_,f_,f_] rfl rfl (any_of HT_.out (by kernel_rfl)) (fun _ _ _ h => h) (Or.inr ⟨by rfl, rfl⟩) ?_ ?_
                   rotate_left
                   · simp only [Act.put, sA_, sB_, sC_, i64_w, i32_w]
                     rfl
                   refine pure_ (i := 26) (N := some 212) (v := undef) (a' := ?_) #[t_,t_,t_,t_,t_,t_,t_,t_,t_,t_,t_,t_,t_,t_,t_,t_,t_,t_,t_,t_,t_,t_,t_,t_,t_,t_,t_,f_,f_,f_] rfl rfl (any_of HT_.out (by kernel_rfl)) (fun _ _ _ h => h) (Or.inr ⟨by rfl, rfl⟩) ?_ ?_
                   rotate_left
                   · simp only [Act.put, sA_, sB_, sC_, i64_w, i32_w]
                     rfl
                   refine pure_ (i := 27) (N := some 213) (v := ?_) (a' := ?_) #[t_,t_,t_,t_,t_,t_,t_,t_,t_,t_,t_,t_,t_,t_,t_,t_,t_,t_,t_,t_,t_,t_,t_,t_,t_,t_,t_,t_,f_,f_] rfl rfl (any_of HT_.out (by kernel_rfl)) (fun _ _ _ h => h) (Or.inl ⟨by rfl, ?_⟩) ?_ ?_; rotate_left; intro w'; go_simp; with_reducible rfl; rotate_left; simp only [Act.put, sA_, sB_, sC_, i64_w, i32_w]; rfl
                   refine pure_ (i := 28) (N := some 214) (v := ?_) (a' := ?_) #[t_,t_,t_,t_,t_,t_,t_,t_,t_,t_,t_,t_,t_,t_,t_,t_,t_,t_,t_,t_,t_,t_,t_,t_,t_,t_,t_,t_,t_,f_] rfl rfl (any_of HT_.out (by kernel_rfl)) (fun _ _ _ h => h) (Or.inl ⟨by rfl, ?_⟩) ?_ ?_; rotate_left; intro w'; go_simp; with_reducible rfl; rotate_left; simp only [Act.put, sA_, sB_, sC_, i64_w, i32_w]; rfl
                   refine pure_ (i := 29) (N := some 14) (v := ?_) (a' := ?_) #[t_,t_,t_,t_,t_,t_,t_,t_,t_,t_,t_,t_,t_,t_,t_,t_,t_,t_,t_,t_,t_,t_,t_,t_,t_,t_,t_,t_,t_,t_] rfl rfl (any_of HT_.out (by kernel_rfl)) (fun _ _ _ h => h) (Or.inl ⟨by rfl, ?_⟩) ?_ ?_; rotate_left; intro w'; go_simp; with_reducible rfl; rotate_left; simp only [Act.put, sA_, sB_, sC_, i64_w, i32_w]; rfl
                   refine done_ (done_of HT_.out (by kernel_rfl)) ?_
                   try go_wp2
                   go_roundg k5
                   case measure => have := HJ3.out; have := HK2.out; have := HJ22.out; have := HJ26.out; have := HK5.out; omega
                   case rel => exact ⟨(true), (wrap64 (x15_5 + 1)), (by first | rfl | (simp; done) | (simp [*]; done)), (by first | rfl | (simp; done) | (simp [*]; done)), H', ⟨by have := HJ3.out; have := HK2.out; have := HJ22.out; have := HJ26.out; have := HK5.out; omega⟩, ⟨by (with_reducible repeat (first | apply Kd.R_alloc | apply Kd.R_drewN | apply Kd.R_drew)); exact HO_6.out⟩, ⟨by (with_reducible repeat (first | apply Kd.R_alloc | apply Kd.R_drewN | apply Kd.R_drew)); exact HO_10.out⟩, ⟨by (with_reducible repeat (first | refine blk_drewN ?_ _ | refine blk_drew ?_ | refine blk_alloc ?_ _)); exact BK182.out⟩, ⟨by repeat (first | (with_reducible first | exact HB.out | apply below_alloc | apply pw_below_drewN | apply below_drew1 | refine below_set ?_ GE182.out) | exact HB.out)⟩⟩
                rw [if_neg c43] at H
                have c43b0 : decide ((wrap64 ((rd t189 x15_5) + (wrap64 ((wrap64 (Int.tdiv (wrap64 (((rd_T34 x6_3 x15_5).f0) + 63)) 64)) * 64)))) ≤ ((rd_T34 x6_3 x12_2).f1)) = false := decide_eq_false c43
                clear c43
                as_aux_lemma =>
                 have H' := Aside0.mk H
                 clear H
                 have p200 : 0 ≤ (x15_5 : Int) := of_decide_eq_true (by first | (with_reducible assumption) | assumption)
                 have q200 : x15_5 < (x6_3.length : Int) := of_decide_eq_true (by first | (with_reducible assumption) | assumption)
                 obtain ⟨ad200, e200, hx200_0, hx200_1⟩ := at_T34 (Kd.R_reads' HO_6.out).2.2 x15_5 p200 q200
                 obtain rfl : ad193 = ad200 := (by injection e200)
                 replace p200 := eq_true p200
                 replace q200 := eq_true q200
                 try go_wp2
                 have n0_ := Aside0.mk (Kd.R_drew HO_6.out)
                 have n1_ := Aside0.mk (Kd.R_drew HO_10.out)
                 have n2_ := Aside0.mk (blk_drew BK182.out)
                 have n3_ := Aside0.mk (below_drew1 HB.out)
                 clear HO_6
                 clear HO_10
                 clear BK182
                 clear HB
                 have HO_6 := n0_
                 have HO_10 := n1_
                 have BK182 := n2_
                 have HB := n3_
                 clear n0_ n1_ n2_ n3_
                 have p201 : 0 ≤ (x12_2 : Int) := of_decide_eq_true (by first | (with_reducible assumption) | assumption)
                 have q201 : x12_2 < (t189.length : Int) := of_decide_eq_true (by first | (with_reducible assumption) | assumption)
                 obtain ⟨ad201, e201, hx201_0⟩ := Kd.at_int (Kd.R_reads' HO_10.out).2.2 x12_2 p201 q201
                 cases e201
                 replace p201 := eq_true p201
                 replace q201 := eq_true q201
                 have p202 : 0 ≤ (x15_5 : Int) := of_decide_eq_true (by first | (with_reducible assumption) | assumption)
                 have q202 : x15_5 < (t189.length : Int) := of_decide_eq_true (by first | (with_reducible assumption) | assumption)
                 obtain ⟨ad202, e202, hx202_0⟩ := Kd.at_int (Kd.R_reads' HO_10.out).2.2 x15_5 p202 q202
                 obtain rfl : ad201 = ad202 := (by injection e202)
                 replace p202 := eq_true p202
                 replace q202 := eq_true q202
                 have p203 : 0 ≤ (x15_5 : Int) := of_decide_eq_true (by first | (with_reducible assumption) | assumption)
                 have q203 : x15_5 < (t189.length : Int) := of_decide_eq_true (by first | (with_reducible assumption) | assumption)
                 obtain ⟨ad203, e203, hx203_0⟩ := Kd.at_int (Kd.R_reads' HO_10.out).2.2 x15_5 p203 q203
                 obtain rfl : ad201 = ad203 := (by injection e203)
                 replace p203 := eq_true p203
                 replace q203 := eq_true q203
                 have p204 : 0 ≤ (x12_2 : Int) := of_decide_eq_true (by first | (with_reducible assumption) | assumption)
                 have q204 : x12_2 < (t189.length : Int) := of_decide_eq_true (by first | (with_reducible assumption) | assumption)
                 obtain ⟨ad204, e204, hx204_0⟩ := Kd.at_int (Kd.R_reads' HO_10.out).2.2 x12_2 p204 q204
                 obtain rfl : ad201 = ad204 := (by injection e204)
                 replace p204 := eq_true p204
                 replace q204 := eq_true q204
                 refine start_ (n := 24) (S := fun w' => w'.cell? (ad201.add (x12_2).toNat) = some (.int .i64 (rd t189 x12_2)) ∧ w'.cell? (ad201.add (x15_5).toNat) = some (.int .i64 (rd t189 x15_5)) ∧ w'.cell? (ad201.add (x15_5).toNat) = some (.int .i64 (rd t189 x15_5)) ∧ w'.cell? (ad201.add (x12_2).toNat) = some (.int .i64 (rd t189 x12_2))) (ds := []) #[f_,f_,f_,f_,f_,f_,f_,f_,f_,f_,f_,f_,f_,f_,f_,f_,f_,f_,f_,f_,f_,f_,f_,f_] (by kernel_rfl) rfl rfl ⟨hx201_0, hx202_0, hx203_0, hx204_0⟩ (fun hHeld => ?_); refine with_tabW flyleaflaw13_PlaceApart.tab25 flyleaflaw13_PlaceApart.bits25 (fun HT_ HW_ => ?_)
                 generalize wr.drew = w46 at HO_6 HO_10 BK182 HB hx201_0 hx202_0 hx203_0 hx204_0 hHeld ⊢
                 refine pure_ (i := 0) (N := some 162) (v := ?_) (a' := ?_) #[t_,f_,f_,f_,f_,f_,f_,f_,f_,f_,f_,f_,f_,f_,f_,f_,f_,f_,f_,f_,f_,f_,f_,f_] rfl rfl (any_of HT_.out (by kernel_rfl)) (fun _ _ _ h => h) (Or.inl ⟨by rfl, ?_⟩) ?_ ?_; rotate_left; intro w'; go_simp; with_reducible rfl; rotate_left; simp only [Act.put, sA_, sB_, sC_, i64_w, i32_w]; rfl
                 refine pure_ (i := 1) (N := some 163) (v := ?_) (a' := ?_) #[t_,t_,f_,f_,f_,f_,f_,f_,f_,f_,f_,f_,f_,f_,f_,f_,f_,f_,f_,f_,f_,f_,f_,f_] rfl rfl (any_of HT_.out (by kernel_rfl)) (fun _ _ _ h => h) (Or.inl ⟨by rfl, ?_⟩) ?_ ?_; rotate_left; intro w'; go_simp; with_reducible rfl; rotate_left; simp only [Act.put, sA_, sB_, sC_, i64_w, i32_w]; rfl
                 refine pure_ (i := 2) (N := some 164) (v := ?_) (a' := ?_) #[t_,t_,t_,f_,f_,f_,f_,f_,f_,f_,f_,f_,f_,f_,f_,f_,f_,f_,f_,f_,f_,f_,f_,f_] rfl rfl (any_of HT_.out (by kernel_rfl)) (fun _ _ _ h => h) (Or.inl ⟨by rfl, ?_⟩) ?_ ?_; rotate_left; intro w'; go_simp; with_reducible rfl; rotate_left; simp only [Act.put, sA_, sB_, sC_, i64_w, i32_w]; rfl
                 refine pure_ (i := 4) (N := some 166) (v := ?_) (a' := ?_) #[t_,t_,t_,f_,t_,f_,f_,f_,f_,f_,f_,f_,f_,f_,f_,f_,f_,f_,f_,f_,f_,f_,f_,f_] rfl rfl (any_of HT_.out (by kernel_rfl)) (fun _ _ _ h => h) (Or.inl ⟨by rfl, ?_⟩) ?_ ?_; rotate_left; intro w'; go_simp; with_reducible rfl; rotate_left; simp only [Act.put, sA_, sB_, sC_, i64_w, i32_w]; rfl
                 refine pure_ (i := 5) (N := some 167) (v := ?_) (a' := ?_) #[t_,t_,t_,f_,t_,t_,f_,f_,f_,f_,f_,f_,f_,f_,f_,f_,f_,f_,f_,f_,f_,f_,f_,f_] rfl rfl (any_of HT_.out (by kernel_rfl)) (fun _ _ _ h => h) (Or.inl ⟨by rfl, ?_⟩) ?_ ?_; rotate_left; intro w'; go_simp; with_reducible rfl; rotate_left; simp only [Act.put, sA_, sB_, sC_, i64_w, i32_w]; rfl
                 refine pure_ (i := 6) (N := some 168) (v := ?_) (a' := ?_) #[t_,t_,t_,f_,t_,t_,t_,f_,f_,f_,f_,f_,f_,f_,f_,f_,f_,f_,f_,f_,f_,f_,f_,f_] rfl rfl (any_of HT_.out (by kernel_rfl)) (fun _ _ _ h => h) (Or.inl ⟨by rfl, ?_⟩) ?_ ?_; rotate_left; intro w'; go_simp; with_reducible rfl; rotate_left; simp only [Act.put, sA_, sB_, sC_, i64_w, i32_w]; rfl
                 refine pure_ (i := 8) (N := some 170) (v := ?_) (a' := ?_) #[t_,t_,t_,f_,t_,t_,t_,f_,t_,f_,f_,f_,f_,f_,f_,f_,f_,f_,f_,f_,f_,f_,f_,f_] rfl rfl (any_of HT_.out (by kernel_rfl)) (fun _ _ _ h => h) (Or.inl ⟨by rfl, ?_⟩) ?_ ?_; rotate_left; intro w'; go_simp; with_reducible rfl; rotate_left; simp only [Act.put, sA_, sB_, sC_, i64_w, i32_w]; rfl
                 refine take_ (i := 3) (N := some 165) (v := ?_) (a' := ?_) #[t_,t_,t_,t_,t_,t_,t_,f_,t_,f_,f_,f_,f_,f_,f_,f_,f_,f_,f_,f_,f_,f_,f_,f_] rfl rfl (take_ofW HT_.out HW_.out (by kernel_rfl)) (fun _ _ _ h => h) (Or.inl ⟨by rfl, ?_⟩) hHeld ?_ ?_; rotate_left; rintro w' ⟨s0, s1, s2, s3⟩; go_simp; with_reducible rfl; rotate_left; simp only [Act.put, sA_, sB_, sC_, i64_w, i32_w]; rfl
                 refine take_ (i := 7) (N := some 169) (v := ?_) (a' := ?_) #[t_,t_,t_,t_,t_,t_,t_,t_,t_,f_,f_,f_,f_,f_,f_,f_,f_,f_,f_,f_,f_,f_,f_,f_] rfl rfl (take_ofW HT_.out HW_.out (by kernel_rfl)) (fun _ _ _ h => h) (Or.inl ⟨by rfl, ?_⟩) hHeld ?_ ?_; rotate_left; rintro w' ⟨s0, s1, s2, s3⟩; go_simp; with_reducible rfl; rotate_left; simp only [Act.put, sA_, sB_, sC_, i64_w, i32_w]; rfl
                 refine pure_ (i := 9) (N := some 171) (v := ?_) (a' := ?_) #[t_,t_,t_,t_,t_,t_,t_,t_,t_,t_,f_,f_,f_,f_,f_,f_,f_,f_,f_,f_,f_,f_,f_,f_] rfl rfl (any_of HT_.out (by kernel_rfl)) (fun _ _ _ h => h) (Or.inl ⟨by rfl, ?_⟩) ?_ ?_; rotate_left; intro w'; go_simp; with_reducible rfl; rotate_left; simp only [Act.put, sA_, sB_, sC_, i64_w, i32_w]; rfl
                 refine pure_ (i := 10) (N := some 172) (v := ?_) (a' := ?_) #[t_,t_,t_,t_,t_,t_,t_,t_,t_,t_,t_,f_,f_,f_,f_,f_,f_,f_,f_,f_,f_,f_,f_,f_] rfl rfl (any_of HT_.out (by kernel_rfl)) (fun _ _ _ h => h) (Or.inl ⟨by rfl, ?_⟩) ?_ ?_; rotate_left; intro w'; go_simp; with_reducible rfl; rotate_left; simp only [Act.put, sA_, sB_, sC_, i64_w, i32_w]; rfl
                 refine pure_ (i := 11) (N := some 173) (v := ?_) (a' := ?_) #[t_,t_,t_,t_,t_,t_,t_,t_,t_,t_,t_,t_,f_,f_,f_,f_,f_,f_,f_,f_,f_,f_,f_,f_] rfl rfl (any_of HT_.out (by kernel_rfl)) (fun _ _ _ h => h) (Or.inl ⟨by rfl, ?_⟩) ?_ ?_; rotate_left; intro w'; go_simp; with_reducible rfl; rotate_left; simp only [Act.put, sA_, sB_, sC_, i64_w, i32_w]; rfl
                 refine pure_ (i := 12) (N := some 174) (v := ?_) (a' := ?_) #[t_,t_,t_,t_,t_,t_,t_,t_,t_,t_,t_,t_,t_,f_,f_,f_,f_,f_,f_,f_,f_,f_,f_,f_] rfl rfl (any_of HT_.out (by kernel_rfl)) (fun _ _ _ h => h) (Or.inl ⟨by rfl, ?_⟩) ?_ ?_; rotate_left; intro w'; go_simp; with_reducible rfl; rotate_left; simp only [Act.put, sA_, sB_, sC_, i64_w, i32_w]; rfl
                 refine pure_ (i := 13) (N := some 175) (v := ?_) (a' := ?_) #[t_,t_,t_,t_,t_,t_,t_,t_,t_,t_,t_,t_,t_,t_,f_,f_,f_,f_,f_,f_,f_,f_,f_,f_] rfl rfl (any_of HT_.out (by kernel_rfl)) (fun _ _ _ h => h) (Or.inl ⟨by rfl, ?_⟩) ?_ ?_; rotate_left; intro w'; go_simp; with_reducible rfl; rotate_left; simp only [Act.put, sA_, sB_, sC_, i64_w, i32_w]; rfl
                 refine pure_ (i := 14) (N := some 176) (v := ?_) (a' := ?_) #[t_,t_,t_,t_,t_,t_,t_,t_,t_,t_,t_,t_,t_,t_,t_,f_,f_,f_,f_,f_,f_,f_,f_,f_] rfl rfl (any_of HT_.out (by kernel_rfl)) (fun _ _ _ h => h) (Or.inl ⟨by rfl, ?_⟩) ?_ ?_; rotate_left; intro w'; go_simp; with_reducible rfl; rotate_left; simp only [Act.put, sA_, sB_, sC_, i64_w, i32_w]; rfl
                 refine pure_ (i := 16) (N := some 178) (v := ?_) (a' := ?_) #[t_,t_,t_,t_,t_,t_,t_,t_,t_,t_,t_,t_,t_,t_,t_,f_,t_,f_,f_,f_,f_,f_,f_,f_] rfl rfl (any_of HT_.out (by kernel_rfl)) (fun _ _ _ h => h) (Or.inl ⟨by rfl, ?_⟩) ?_ ?_; rotate_left; intro w'; go_simp; with_reducible rfl; rotate_left; simp only [Act.put, sA_, sB_, sC_, i64_w, i32_w]; rfl
                 refine pure_ (i := 17) (N := some 179) (v := ?_) (a' := ?_) #[t_,t_,t_,t_,t_,t_,t_,t_,t_,t_,t_,t_,t_,t_,t_,f_,t_,t_,f_,f_,f_,f_,f_,f_] rfl rfl (any_of HT_.out (by kernel_rfl)) (fun _ _ _ h => h) (Or.inl ⟨by rfl, ?_⟩) ?_ ?_; rotate_left; intro w'; go_simp; with_reducible rfl; rotate_left; simp only [Act.put, sA_, sB_, sC_, i64_w, i32_w]; rfl
                 refine pure_ (i := 18) (N := some 180) (v := ?_) (a' := ?_) #[t_,t_,t_,t_,t_,t_,t_,t_,t_,t_,t_,t_,t_,t_,t_,f_,t_,t_,t_,f_,f_,f_,f_,f_] rfl rfl (any_of HT_.out (by kernel_rfl)) (fun _ _ _ h => h) (Or.inl ⟨by rfl, ?_⟩) ?_ ?_; rotate_left; intro w'; go_simp; with_reducible rfl; rotate_left; simp only [Act.put, sA_, sB_, sC_, i64_w, i32_w]; rfl
                 refine pure_ (i := 20) (N := some 182) (v := ?_) (a' := ?_) #[t_,t_,t_,t_,t_,t_,t_,t_,t_,t_,t_,t_,t_,t_,t_,f_,t_,t_,t_,f_,t_,f_,f_,f_] rfl rfl (any_of HT_.out (by kernel_rfl)) (fun _ _ _ h => h) (Or.inl ⟨by rfl, ?_⟩) ?_ ?_; rotate_left; intro w'; go_simp; with_reducible rfl; rotate_left; simp only [Act.put, sA_, sB_, sC_, i64_w, i32_w]; rfl
                 refine take_ (i := 15) (N := some 177) (v := ?_) (a' := ?_) #[t_,t_,t_,t_,t_,t_,t_,t_,t_,t_,t_,t_,t_,t_,t_,t_,t_,t_,t_,f_,t_,f_,f_,f_] rfl rfl (take_ofW HT_.out HW_.out (by kernel_rfl)) (fun _ _ _ h => h) (Or.inl ⟨by rfl, ?_⟩) hHeld ?_ ?_; rotate_left; rintro w' ⟨s0, s1, s2, s3⟩; go_simp; with_reducible rfl; rotate_left; simp only [Act.put, sA_, sB_, sC_, i64_w, i32_w]; rfl
                 refine take_ (i := 19) (N := some 181) (v := ?_) (a' := ?_) #[t_,t_,t_,t_,t_,t_,t_,t_,t_,t_,t_,t_,t_,t_,t_,t_,t_,t_,t_,t_,t_,f_,f_,f_] rfl rfl (take_ofW HT_.out HW_.out (by kernel_rfl)) (fun _ _ _ h => h) (Or.inl ⟨by rfl, ?_⟩) hHeld ?_ ?_; rotate_left; rintro w' ⟨s0, s1, s2, s3⟩; go_simp; with_reducible rfl; rotate_left; simp only [Act.put, sA_, sB_, sC_, i64_w, i32_w]; rfl
                 refine pure_ (i := 21) (N := some 183) (v := ?_) (a' := ?_) #[t_,t_,t_,t_,t_,t_,t_,t_,t_,t_,t_,t_,t_,t_,t_,t_,t_,t_,t_,t_,t_,t_,f_,f_] rfl rfl (any_of HT_.out (by kernel_rfl)) (fun _ _ _ h => h) (Or.inl ⟨by rfl, ?_⟩) ?_ ?_; rotate_left; intro w'; go_simp; with_reducible rfl; rotate_left; simp only [Act.put, sA_, sB_, sC_, i64_w, i32_w]; rfl
                 refine pure_ (i := 22) (N := some 184) (v := ?_) (a' := ?_) #[t_,t_,t_,t_,t_,t_,t_,t_,t_,t_,t_,t_,t_,t_,t_,t_,t_,t_,t_,t_,t_,t_,t_,f_] rfl rfl (any_of HT_.out (by kernel_rfl)) (fun _ _ _ h => h) (Or.inl ⟨by rfl, ?_⟩) ?_ ?_; rotate_left; intro w'; go_simp; with_reducible rfl; rotate_left; simp only [Act.put, sA_, sB_, sC_, i64_w, i32_w]; rfl
                 refine pure_ (i := 23) (N := some 185) (v := ?_) (a' := ?_) #[t_,t_,t_,t_,t_,t_,t_,t_,t_,t_,t_,t_,t_,t_,t_,t_,t_,t_,t_,t_,t_,t_,t_,t_] rfl rfl (any_of HT_.out (by kernel_rfl)) (fun _ _ _ h => h) (Or.inl ⟨by rfl, ?_⟩) ?_ ?_; rotate_left; intro w'; go_simp; with_reducible rfl; rotate_left; simp only [Act.put, sA_, sB_, sC_, i64_w, i32_w]; rfl
                 refine done_ (done_of HT_.out (by kernel_rfl)) ?_
                 try go_wp2
                 have n0_ := Aside0.mk (Kd.R_drew HO_6.out)
                 have n1_ := Aside0.mk (Kd.R_drew HO_10.out)
                 have n2_ := Aside0.mk (blk_drew BK182.out)
                 have n3_ := Aside0.mk (below_drew1 HB.out)
                 clear HO_6
                 clear HO_10
                 clear BK182
                 clear HB
                 have HO_6 := n0_
                 have HO_10 := n1_
                 have BK182 := n2_
                 have HB := n3_
                 clear n0_ n1_ n2_ n3_
                 have p205 : 0 ≤ (x12_2 : Int) := of_decide_eq_true (by first | (with_reducible assumption) | assumption)
                 have q205 : x12_2 < (x6_3.length : Int) := of_decide_eq_true (by first | (with_reducible assumption) | assumption)
                 obtain ⟨ad205, e205, hx205_0, hx205_1⟩ := at_T34 (Kd.R_reads' HO_6.out).2.2 x12_2 p205 q205
                 obtain rfl : ad193 = ad205 := (by injection e205)
                 replace p205 := eq_true p205
                 replace q205 := eq_true q205
                 have p206 : 0 ≤ (x15_5 : Int) := of_decide_eq_true (by first | (with_reducible assumption) | assumption)
                 have q206 : x15_5 < (t189.length : Int) := of_decide_eq_true (by first | (with_reducible assumption) | assumption)
                 obtain ⟨ad206, e206, hx206_0⟩ := Kd.at_int (Kd.R_reads' HO_10.out).2.2 x15_5 p206 q206
                 obtain rfl : ad201 = ad206 := (by injection e206)
                 replace p206 := eq_true p206
                 replace q206 := eq_true q206
                 have p207 : 0 ≤ (x15_5 : Int) := of_decide_eq_true (by first | (with_reducible assumption) | assumption)
                 have q207 : x15_5 < (t189.length : Int) := of_decide_eq_true (by first | (with_reducible assumption) | assumption)
                 obtain ⟨ad207, e207, hx207_0⟩ := Kd.at_int (Kd.R_reads' HO_10.out).2.2 x15_5 p207 q207
                 obtain rfl : ad201 = ad207 := (by injection e207)
                 replace p207 := eq_true p207
                 replace q207 := eq_true q207
                 have p208 : 0 ≤ (x12_2 : Int) := of_decide_eq_true (by first | (with_reducible assumption) | assumption)
                 have q208 : x12_2 < (x6_3.length : Int) := of_decide_eq_true (by first | (with_reducible assumption) | assumption)
                 obtain ⟨ad208, e208, hx208_0, hx208_1⟩ := at_T34 (Kd.R_reads' HO_6.out).2.2 x12_2 p208 q208
                 obtain rfl : ad193 = ad208 := (by injection e208)
                 replace p208 := eq_true p208
                 replace q208 := eq_true q208
                 refine start_ (n := 30) (S := fun w' => w'.cell? (ad193.add ((x12_2).toNat * 2)) = some (.int .i64 ((rd_T34 x6_3 x12_2).f0)) ∧ w'.cell? ⟨(ad193.add ((x12_2).toNat * 2)).block, (ad193.add ((x12_2).toNat * 2)).off + 1, none⟩ = some (.int .i64 ((rd_T34 x6_3 x12_2).f1)) ∧ w'.cell? (ad201.add (x15_5).toNat) = some (.int .i64 (rd t189 x15_5)) ∧ w'.cell? (ad201.add (x15_5).toNat) = some (.int .i64 (rd t189 x15_5)) ∧ w'.cell? (ad193.add ((x12_2).toNat * 2)) = some (.int .i64 ((rd_T34 x6_3 x12_2).f0)) ∧ w'.cell? ⟨(ad193.add ((x12_2).toNat * 2)).block, (ad193.add ((x12_2).toNat * 2)).off + 1, none⟩ = some (.int .i64 ((rd_T34 x6_3 x12_2).f1))) (ds := []) #[f_,f_,f_,f_,f_,f_,f_,f_,f_,f_,f_,f_,f_,f_,f_,f_,f_,f_,f_,f_,f_,f_,f_,f_,f_,f_,f_,f_,f_,f_] (by kernel_rfl) rfl rfl ⟨hx205_0, hx205_1, hx206_0, hx207_0, hx208_0, hx208_1⟩ (fun hHeld => ?_); refine with_tabW flyleaflaw13_PlaceApart.tab27 flyleaflaw13_PlaceApart.bits27 (fun HT_ HW_ => ?_)
                 generalize w46.drew = w47 at HO_6 HO_10 BK182 HB hx205_0 hx205_1 hx206_0 hx207_0 hx208_0 hx208_1 hHeld ⊢
                 refine pure_ (i := 0) (N := some 186) (v := ?_) (a' := ?_) #[t_,f_,f_,f_,f_,f_,f_,f_,f_,f_,f_,f_,f_,f_,f_,f_,f_,f_,f_,f_,f_,f_,f_,f_,f_,f_,f_,f_,f_,f_] rfl rfl (any_of HT_.out (by kernel_rfl)) (fun _ _ _ h => h) (Or.inl ⟨by rfl, ?_⟩) ?_ ?_; rotate_left; intro w'; go_simp; with_reducible rfl; rotate_left; simp only [Act.put, sA_, sB_, sC_, i64_w, i32_w]; rfl
                 refine pure_ (i := 1) (N := some 187) (v := ?_) (a' := ?_) #[t_,t_,f_,f_,f_,f_,f_,f_,f_,f_,f_,f_,f_,f_,f_,f_,f_,f_,f_,f_,f_,f_,f_,f_,f_,f_,f_,f_,f_,f_] rfl rfl (any_of HT_.out (by kernel_rfl)) (fun _ _ _ h => h) (Or.inl ⟨by rfl, ?_⟩) ?_ ?_; rotate_left; intro w'; go_simp; with_reducible rfl; rotate_left; simp only [Act.put, sA_, sB_, sC_, i64_w, i32_w]; rfl
                 refine pure_ (i := 2) (N := some 188) (v := ?_) (a' := ?_) #[t_,t_,t_,f_,f_,f_,f_,f_,f_,f_,f_,f_,f_,f_,f_,f_,f_,f_,f_,f_,f_,f_,f_,f_,f_,f_,f_,f_,f_,f_] rfl rfl (any_of HT_.out (by kernel_rfl)) (fun _ _ _ h => h) (Or.inl ⟨by rfl, ?_⟩) ?_ ?_; rotate_left; intro w'; go_simp; with_reducible rfl; rotate_left; simp only [Act.put, sA_, sB_, sC_, i64_w, i32_w]; rfl
                 refine pure_ (i := 3) (N := some 189) (v := ?_) (a' := ?_) #[t_,t_,t_,t_,f_,f_,f_,f_,f_,f_,f_,f_,f_,f_,f_,f_,f_,f_,f_,f_,f_,f_,f_,f_,f_,f_,f_,f_,f_,f_] rfl rfl (any_of HT_.out (by kernel_rfl)) (fun _ _ _ h => h) (Or.inl ⟨by rfl, ?_⟩) ?_ ?_; rotate_left; intro w'; go_simp; with_reducible rfl; rotate_left; simp only [Act.put, sA_, sB_, sC_, i64_w, i32_w]; rfl
                 refine pure_ (i := 4) (N := some 190) (v := ?_) (a' := ?_) #[t_,t_,t_,t_,t_,f_,f_,f_,f_,f_,f_,f_,f_,f_,f_,f_,f_,f_,f_,f_,f_,f_,f_,f_,f_,f_,f_,f_,f_,f_] rfl rfl (any_of HT_.out (by kernel_rfl)) (fun _ _ _ h => h) (Or.inl ⟨by rfl, ?_⟩) ?_ ?_; rotate_left; intro w'; go_simp; with_reducible rfl; rotate_left; simp only [Act.put, sA_, sB_, sC_, i64_w, i32_w]; rfl
                 refine pure_ (i := 5) (N := some 191) (v := ?_) (a' := ?_) #[t_,t_,t_,t_,t_,t_,f_,f_,f_,f_,f_,f_,f_,f_,f_,f_,f_,f_,f_,f_,f_,f_,f_,f_,f_,f_,f_,f_,f_,f_] rfl rfl (any_of HT_.out (by kernel_rfl)) (fun _ _ _ h => h) (Or.inl ⟨by rfl, ?_⟩) ?_ ?_; rotate_left; intro w'; go_simp; with_reducible rfl; rotate_left; simp only [Act.put, sA_, sB_, sC_, i64_w, i32_w]; rfl
                 refine pure_ (i := 7) (N := some 193) (v := ?_) (a' := ?_) #[t_,t_,t_,t_,t_,t_,f_,t_,f_,f_,f_,f_,f_,f_,f_,f_,f_,f_,f_,f_,f_,f_,f_,f_,f_,f_,f_,f_,f_,f_] rfl rfl (any_of HT_.out (by kernel_rfl)) (fun _ _ _ h => h) (Or.inl ⟨by rfl, ?_⟩) ?_ ?_; rotate_left; intro w'; go_simp; with_reducible rfl; rotate_left; simp only [Act.put, sA_, sB_, sC_, i64_w, i32_w]; rfl
                 refine pure_ (i := 8) (N := some 194) (v := ?_) (a' := ?_) #[t_,t_,t_,t_,t_,t_,f_,t_,t_,f_,f_,f_,f_,f_,f_,f_,f_,f_,f_,f_,f_,f_,f_,f_,f_,f_,f_,f_,f_,f_] rfl rfl (any_of HT_.out (by kernel_rfl)) (fun _ _ _ h => h) (Or.inl ⟨by rfl, ?_⟩) ?_ ?_; rotate_left; intro w'; go_simp; with_reducible rfl; rotate_left; simp only [Act.put, sA_, sB_, sC_, i64_w, i32_w]; rfl
                 refine pure_ (i := 9) (N := some 195) (v := ?_) (a' := ?_) #[t_,t_,t_,t_,t_,t_,f_,t_,t_,t_,f_,f_,f_,f_,f_,f_,f_,f_,f_,f_,f_,f_,f_,f_,f_,f_,f_,f_,f_,f_] rfl rfl (any_of HT_.out (by kernel_rfl)) (fun _ _ _ h => h) (Or.inl ⟨by rfl, ?_⟩) ?_ ?_; rotate_left; intro w'; go_simp; with_reducible rfl; rotate_left; simp only [Act.put, sA_, sB_, sC_, i64_w, i32_w]; rfl
                 refine pure_ (i := 11) (N := some 197) (v := ?_) (a' := ?_) #[t_,t_,t_,t_,t_,t_,f_,t_,t_,t_,f_,t_,f_,f_,f_,f_,f_,f_,f_,f_,f_,f_,f_,f_,f_,f_,f_,f_,f_,f_] rfl rfl (any_of HT_.out (by kernel_rfl)) (fun _ _ _ h => h) (Or.inl ⟨by rfl, ?_⟩) ?_ ?_; rotate_left; intro w'; go_simp; with_reducible rfl; rotate_left; simp only [Act.put, sA_, sB_, sC_, i64_w, i32_w]; rfl
                 refine take_ (i := 6) (N := some 192) (v := ?_) (a' := ?_) #[t_,t_,t_,t_,t_,t_,t_,t_,t_,t_,f_,t_,f_,f_,f_,f_,f_,f_,f_,f_,f_,f_,f_,f_,f_,f_,f_,f_,f_,f_] rfl rfl (take_ofW HT_.out HW_.out (by kernel_rfl)) (fun _ _ _ h => h) (Or.inl ⟨by rfl, ?_⟩) hHeld ?_ ?_; rotate_left; rintro w' ⟨s0, s1, s2, s3, s4, s5⟩; go_simp; with_reducible rfl; rotate_left; simp only [Act.put, sA_, sB_, sC_, i64_w, i32_w]; rfl
                 refine take_ (i := 10) (N := some 196) (v := ?_) (a' := ?_) #[t_,t_,t_,t_,t_,t_,t_,t_,t_,t_,t_,t_,f_,f_,f_,f_,f_,f_,f_,f_,f_,f_,f_,f_,f_,f_,f_,f_,f_,f_] rfl rfl (take_ofW HT_.out HW_.out (by kernel_rfl)) (fun _ _ _ h => h) (Or.inl ⟨by rfl, ?_⟩) hHeld ?_ ?_; rotate_left; rintro w' ⟨s0, s1, s2, s3, s4, s5⟩; go_simp; with_reducible rfl; rotate_left; simp only [Act.put, sA_, sB_, sC_, i64_w, i32_w]; rfl
                 refine pure_ (i := 12) (N := some 198) (v := ?_) (a' := ?_) #[t_,t_,t_,t_,t_,t_,t_,t_,t_,t_,t_,t_,t_,f_,f_,f_,f_,f_,f_,f_,f_,f_,f_,f_,f_,f_,f_,f_,f_,f_] rfl rfl (any_of HT_.out (by kernel_rfl)) (fun _ _ _ h => h) (Or.inl ⟨by rfl, ?_⟩) ?_ ?_; rotate_left; intro w'; go_simp; with_reducible rfl; rotate_left; simp only [Act.put, sA_, sB_, sC_, i64_w, i32_w]; rfl
                 refine pure_ (i := 13) (N := some 199) (v := ?_) (a' := ?_) #[t_,t_,t_,t_,t_,t_,t_,t_,t_,t_,t_,t_,t_,t_,f_,f_,f_,f_,f_,f_,f_,f_,f_,f_,f_,f_,f_,f_,f_,f_] rfl rfl (any_of HT_.out (by kernel_rfl)) (fun _ _ _ h => h) (Or.inl ⟨by rfl, ?_⟩) ?_ ?_; rotate_left; intro w'; go_simp; with_reducible rfl; rotate_left; simp only [Act.put, sA_, sB_, sC_, i64_w, i32_w]; rfl
                 refine pure_ (i := 14) (N := some 200) (v := ?_) (a' := ?_) #[t_,t_,t_,t_,t_,t_,t_,t_,t_,t_,t_,t_,t_,t_,t_,f_,f_,f_,f_,f_,f_,f_,f_,f_,f_,f_,f_,f_,f_,f_] rfl rfl (any_of HT_.out (by kernel_rfl)) (fun _ _ _ h => h) (Or.inl ⟨by rfl, ?_⟩) ?_ ?_; rotate_left; intro w'; go_simp; with_reducible rfl; rotate_left; simp only [Act.put, sA_, sB_, sC_, i64_w, i32_w]; rfl
                 refine pure_ (i := 15) (N := some 201) (v := ?_) (a' := ?_) #[t_,t_,t_,t_,t_,t_,t_,t_,t_,t_,t_,t_,t_,t_,t_,t_,f_,f_,f_,f_,f_,f_,f_,f_,f_,f_,f_,f_,f_,f_] rfl rfl (any_of HT_.out (by kernel_rfl)) (fun _ _ _ h => h) (Or.inl ⟨by rfl, ?_⟩) ?_ ?_; rotate_left; intro w'; go_simp; with_reducible rfl; rotate_left; simp only [Act.put, sA_, sB_, sC_, i64_w, i32_w]; rfl
                 refine pure_ (i := 16) (N := some 202) (v := ?_) (a' := ?_) #[t_,t_,t_,t_,t_,t_,t_,t_,t_,t_,t_,t_,t_,t_,t_,t_,t_,f_,f_,f_,f_,f_,f_,f_,f_,f_,f_,f_,f_,f_] rfl rfl (any_of HT_.out (by kernel_rfl)) (fun _ _ _ h => h) (Or.inl ⟨by rfl, ?_⟩) ?_ ?_; rotate_left; intro w'; go_simp; with_reducible rfl; rotate_left; simp only [Act.put, sA_, sB_, sC_, i64_w, i32_w]; rfl
                 refine pure_ (i := 17) (N := some 203) (v := ?_) (a' := ?_) #[t_,t_,t_,t_,t_,t_,t_,t_,t_,t_,t_,t_,t_,t_,t_,t_,t_,t_,f_,f_,f_,f_,f_,f_,f_,f_,f_,f_,f_,f_] rfl rfl (any_of HT_.out (by kernel_rfl)) (fun _ _ _ h => h) (Or.inl ⟨by rfl, ?_⟩) ?_ ?_; rotate_left; intro w'; go_simp; with_reducible rfl; rotate_left; simp only [Act.put, sA_, sB_, sC_, i64_w, i32_w]; rfl
                 refine pure_ (i := 19) (N := some 205) (v := ?_) (a' := ?_) #[t_,t_,t_,t_,t_,t_,t_,t_,t_,t_,t_,t_,t_,t_,t_,t_,t_,t_,f_,t_,f_,f_,f_,f_,f_,f_,f_,f_,f_,f_] rfl rfl (any_of HT_.out (by kernel_rfl)) (fun _ _ _ h => h) (Or.inl ⟨by rfl, ?_⟩) ?_ ?_; rotate_left; intro w'; go_simp; with_reducible rfl; rotate_left; simp only [Act.put, sA_, sB_, sC_, i64_w, i32_w]; rfl
                 refine pure_ (i := 20) (N := some 206) (v := ?_) (a' := ?_) #[t_,t_,t_,t_,t_,t_,t_,t_,t_,t_,t_,t_,t_,t_,t_,t_,t_,t_,f_,t_,t_,f_,f_,f_,f_,f_,f_,f_,f_,f_] rfl rfl (any_of HT_.out (by kernel_rfl)) (fun _ _ _ h => h) (Or.inl ⟨by rfl, ?_⟩) ?_ ?_; rotate_left; intro w'; go_simp; with_reducible rfl; rotate_left; simp only [Act.put, sA_, sB_, sC_, i64_w, i32_w]; rfl
                 refine pure_ (i := 21) (N := some 207) (v := ?_) (a' := ?_) #[t_,t_,t_,t_,t_,t_,t_,t_,t_,t_,t_,t_,t_,t_,t_,t_,t_,t_,f_,t_,t_,t_,f_,f_,f_,f_,f_,f_,f_,f_] rfl rfl (any_of HT_.out (by kernel_rfl)) (fun _ _ _ h => h) (Or.inl ⟨by rfl, ?_⟩) ?_ ?_; rotate_left; intro w'; go_simp; with_reducible rfl; rotate_left; simp only [Act.put, sA_, sB_, sC_, i64_w, i32_w]; rfl
                 refine pure_ (i := 22) (N := some 208) (v := ?_) (a' := ?_) #[t_,t_,t_,t_,t_,t_,t_,t_,t_,t_,t_,t_,t_,t_,t_,t_,t_,t_,f_,t_,t_,t_,t_,f_,f_,f_,f_,f_,f_,f_] rfl rfl (any_of HT_.out (by kernel_rfl)) (fun _ _ _ h => h) (Or.inl ⟨by rfl, ?_⟩) ?_ ?_; rotate_left; intro w'; go_simp; with_reducible rfl; rotate_left; simp only [Act.put, sA_, sB_, sC_, i64_w, i32_w]; rfl
                 refine pure_ (i := 24) (N := some 210) (v := ?_) (a' := ?_) #[t_,t_,t_,t_,t_,t_,t_,t_,t_,t_,t_,t_,t_,t_,t_,t_,t_,t_,f_,t_,t_,t_,t_,f_,t_,f_,f_,f_,f_,f_] rfl rfl (any_of HT_.out (by kernel_rfl)) (fun _ _ _ h => h) (Or.inl ⟨by rfl, ?_⟩) ?_ ?_; rotate_left; intro w'; go_simp; with_reducible rfl; rotate_left; simp only [Act.put, sA_, sB_, sC_, i64_w, i32_w]; rfl
                 refine take_ (i := 18) (N := some 204) (v := ?_) (a' := ?_) #[t_,t_,t_,t_,t_,t_,t_,t_,t_,t_,t_,t_,t_,t_,t_,t_,t_,t_,t_,t_,t_,t_,t_,f_,t_,f_,f_,f_,f_,f_] rfl rfl (take_ofW HT_.out HW_.out (by kernel_rfl)) (fun _ _ _ h => h) (Or.inl ⟨by rfl, ?_⟩) hHeld ?_ ?_; rotate_left; rintro w' ⟨s0, s1, s2, s3, s4, s5⟩; go_simp; with_reducible rfl; rotate_left; simp only [Act.put, sA_, sB_, sC_, i64_w, i32_w]; rfl
                 refine take_ (i := 23) (N := some 209) (v := ?_) (a' := ?_) #[t_,t_,t_,t_,t_,t_,t_,t_,t_,t_,t_,t_,t_,t_,t_,t_,t_,t_,t_,t_,t_,t_,t_,t_,t_,f_,f_,f_,f_,f_] rfl rfl (take_ofW HT_.out HW_.out (by kernel_rfl)) (fun _ _ _ h => h) (Or.inl ⟨by rfl, ?_⟩) hHeld ?_ ?_; rotate_left; rintro w' ⟨s0, s1, s2, s3, s4, s5⟩; go_simp; with_reducible rfl; rotate_left; simp only [Act.put, sA_, sB_, sC_, i64_w, i32_w]; rfl
                 refine pure_ (i := 25) (N := some 211) (v := ?_) (a' := ?_) #[t_,t_,t_,t_,t_,t_,t_,t_,t_,t_,t_,t_,t_,t_,t_,t_,t_,t_,t_,t_,t_,t_,t_,t_,t_,t_,f_,f_,f_,f_] rfl rfl (any_of HT_.out (by kernel_rfl)) (fun _ _ _ h => h) (Or.inl ⟨by rfl, ?_⟩) ?_ ?_; rotate_left; intro w'; go_simp; with_reducible rfl; rotate_left; simp only [Act.put, sA_, sB_, sC_, i64_w, i32_w]; rfl
                 refine pure_ (i := 26) (N := some 212) (v := ?_) (a' := ?_) #[t_,t_,t_,t_,t_,t_,t_,t_,t_,t_,t_,t_,t_,t_,t_,t_,t_,t_,t_,t_,t_,t_,t_,t_,t_,t_,t_,f_,f_,f_] rfl rfl (any_of HT_.out (by kernel_rfl)) (fun _ _ _ h => h) (Or.inl ⟨by rfl, ?_⟩) ?_ ?_; rotate_left; intro w'; go_simp; with_reducible rfl; rotate_left; simp only [Act.put, sA_, sB_, sC_, i64_w, i32_w]; rfl
                 refine pure_ (i := 27) (N := some 213) (v := ?_) (a' := ?_) #[t_,t_,t_,t_,t_,t_,t_,t_,t_,t_,t_,t_,t_,t_,t_,t_,t_,t_,t_,t_,t_,t_,t_,t_,t_,t_,t_,t_,f_,f_] rfl rfl (any_of HT_.out (by kernel_rfl)) (fun _ _ _ h => h) (Or.inl ⟨by rfl, ?_⟩) ?_ ?_; rotate_left; intro w'; go_simp; with_reducible rfl; rotate_left; simp only [Act.put, sA_, sB_, sC_, i64_w, i32_w]; rfl
                 refine pure_ (i := 28) (N := some 214) (v := ?_) (a' := ?_) #[t_,t_,t_,t_,t_,t_,t_,t_,t_,t_,t_,t_,t_,t_,t_,t_,t_,t_,t_,t_,t_,t_,t_,t_,t_,t_,t_,t_,t_,f_] rfl rfl (any_of HT_.out (by kernel_rfl)) (fun _ _ _ h => h) (Or.inl ⟨by rfl, ?_⟩) ?_ ?_; rotate_left; intro w'; go_simp; with_reducible rfl; rotate_left; simp only [Act.put, sA_, sB_, sC_, i64_w, i32_w]; rfl
                 refine pure_ (i := 29) (N := some 14) (v := ?_) (a' := ?_) #[t_,t_,t_,t_,t_,t_,t_,t_,t_,t_,t_,t_,t_,t_,t_,t_,t_,t_,t_,t_,t_,t_,t_,t_,t_,t_,t_,t_,t_,t_] rfl rfl (any_of HT_.out (by kernel_rfl)) (fun _ _ _ h => h) (Or.inl ⟨by rfl, ?_⟩) ?_ ?_; rotate_left; intro w'; go_simp; with_reducible rfl; rotate_left; simp only [Act.put, sA_, sB_, sC_, i64_w, i32_w]; rfl
                 refine done_ (done_of HT_.out (by kernel_rfl)) ?_
                 try go_wp2
                 go_roundg k5
                 case measure => have := HJ3.out; have := HK2.out; have := HJ22.out; have := HJ26.out; have := HK5.out; omega
                 case rel => exact ⟨(decide ((rd t189 x15_5) ≥ (wrap64 (((rd_T34 x6_3 x12_2).f1) + (wrap64 ((wrap64 (Int.tdiv (wrap64 (((rd_T34 x6_3 x12_2).f0) + 63)) 64)) * 64)))))), (wrap64 (x15_5 + 1)), (by first | rfl | (simp; done) | (simp [*]; done)), (by first | rfl | (simp; done) | (simp [*]; done)), H', ⟨by have := HJ3.out; have := HK2.out; have := HJ22.out; have := HJ26.out; have := HK5.out; omega⟩, ⟨by (with_reducible repeat (first | apply Kd.R_alloc | apply Kd.R_drewN | apply Kd.R_drew)); exact HO_6.out⟩, ⟨by (with_reducible repeat (first | apply Kd.R_alloc | apply Kd.R_drewN | apply Kd.R_drew)); exact HO_10.out⟩, ⟨by (with_reducible repeat (first | refine blk_drewN ?_ _ | refine blk_drew ?_ | refine blk_alloc ?_ _)); exact BK182.out⟩, ⟨by repeat (first | (with_reducible first | exact HB.out | apply below_alloc | apply pw_below_drewN | apply below_drew1 | refine below_set ?_ GE182.out) | exact HB.out)⟩⟩

end Go.Proofs.Ytafmeagfockdfaa.Pl
