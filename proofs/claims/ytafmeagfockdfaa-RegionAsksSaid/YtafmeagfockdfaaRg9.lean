-- Written by prn.py, a program of this session over the kit's printer. Not trusted: Lean checks it.
import Derived.Test.YtafmeagfockdfaaRg0
import Derived.Test.YtafmeagfockdfaaRg7
import Derived.Test.YtafmeagfockdfaaRg8
import Derived.Test.YtafmeagfockdfaaSq
namespace Go.Proofs.Ytafmeagfockdfaa.Rg
open Go.Proofs.Ytafmeagfockdfaa.Sq
open Go.RowKit Go.Proofs.YtafmeagfockdfaaW.PrintWords Go.Proofs.YtafmeagfockdfaaW.PrintLast Go.Proofs.YtafmeagfockdfaaW.PrintMore
attribute [local go_sem] max2_int min2_int max_two min_two max_three min_three max_four min_four   -- for this text's walks alone
set_option linter.unusedVariables false
set_option linter.unusedSimpArgs false

/-! ### flyleafref15_Covers: function 45 -/
mutual
def flyleafref15_Covers.j0 : Nat → List (S41) → Int → Int → Bool → Option (Bool)
  | 0, _, _, _, _ => none
  | k + 1, x0, x1, x2, x17 => if x17 = true then (some false) else ((flyleafref15_Spread.f k x0).bind fun t164 => (flyleafref15_Covers.l0 k x2 t164 x1))
def flyleafref15_Covers.l0 : Nat → Int → List (S87) → Int → Option (Bool)
  | 0, _, _, _ => none
  | k + 1, x2, x7, x8 => if x8 < x2 then (if 0 ≤ x8 then (if x8 < (x7.length : Int) then (if ((rd_T87 x7 x8).f1 = true) then (flyleafref15_Covers.l0 k x2 x7 (wrap64 (x8 + 1))) else (some false)) else (none)) else (none)) else (some true)
end
def flyleafref15_Covers.f (k : Nat) (l0 : List (S41)) (a1 : Int) (a2 : Int) : Option (Bool) := if a1 ≥ a2 then (some true) else (if a1 < 0 then (flyleafref15_Covers.j0 k l0 a1 a2 true) else (flyleafref15_Covers.j0 k l0 a1 a2 (decide (a2 > 4096))))
theorem flyleafref15_Covers.mono_l : ∀ k, (∀ y0 y1 y2 y3, LeO (flyleafref15_Covers.j0 k y0 y1 y2 y3) (flyleafref15_Covers.j0 (k + 1) y0 y1 y2 y3)) ∧ (∀ y0 y1 y2, LeO (flyleafref15_Covers.l0 k y0 y1 y2) (flyleafref15_Covers.l0 (k + 1) y0 y1 y2))
  | 0 => ⟨fun _ _ _ _ r h => by simp [flyleafref15_Covers.j0] at h, fun _ _ _ r h => by simp [flyleafref15_Covers.l0] at h⟩
  | k + 1 => by
    obtain ⟨ih0, ih1⟩ := flyleafref15_Covers.mono_l k
    refine ⟨?_, ?_⟩
    · intro y0 y1 y2 y3
      unfold flyleafref15_Covers.j0
      repeat' first
      | (with_reducible exact ih0 _ _ _ _)
      | (with_reducible exact ih1 _ _ _)
      | (with_reducible exact flyleafref15_Spread.mono _ _)
      | (with_reducible exact LeO.refl _)
      | (with_reducible exact LeO.none _)
      | (with_reducible refine LeO.ite ?_ ?_)
      | (with_reducible refine LeO.bind ?_ (fun _ => ?_))
      | exact ih0 _ _ _ _
      | exact ih1 _ _ _
      | exact flyleafref15_Spread.mono _ _
      | exact LeO.none _
      | refine LeO.ite ?_ ?_
      | refine LeO.bind ?_ (fun _ => ?_)
    · intro y0 y1 y2
      unfold flyleafref15_Covers.l0
      repeat' first
      | (with_reducible exact ih0 _ _ _ _)
      | (with_reducible exact ih1 _ _ _)
      | (with_reducible exact flyleafref15_Spread.mono _ _)
      | (with_reducible exact LeO.refl _)
      | (with_reducible exact LeO.none _)
      | (with_reducible refine LeO.ite ?_ ?_)
      | (with_reducible refine LeO.bind ?_ (fun _ => ?_))
      | exact ih0 _ _ _ _
      | exact ih1 _ _ _
      | exact flyleafref15_Spread.mono _ _
      | exact LeO.none _
      | refine LeO.ite ?_ ?_
      | refine LeO.bind ?_ (fun _ => ?_)
theorem flyleafref15_Covers.mono : ∀ a0 a1 a2 k, LeO (flyleafref15_Covers.f k a0 a1 a2) (flyleafref15_Covers.f (k + 1) a0 a1 a2) := by
  intro a0 a1 a2 k
  obtain ⟨ih0, ih1⟩ := flyleafref15_Covers.mono_l k
  unfold flyleafref15_Covers.f
  repeat' first
      | (with_reducible exact ih0 _ _ _ _)
      | (with_reducible exact ih1 _ _ _)
      | (with_reducible exact flyleafref15_Spread.mono _ _)
      | (with_reducible exact LeO.refl _)
      | (with_reducible exact LeO.none _)
      | (with_reducible refine LeO.ite ?_ ?_)
      | (with_reducible refine LeO.bind ?_ (fun _ => ?_))
      | exact ih0 _ _ _ _
      | exact ih1 _ _ _
      | exact flyleafref15_Spread.mono _ _
      | exact LeO.none _
      | refine LeO.ite ?_ ?_
      | refine LeO.bind ?_ (fun _ => ?_)
set_option maxHeartbeats 8000000 in
set_option maxRecDepth 100000 in
theorem flyleafref15_Covers.calls (k : Nat) (A0 : Option Addr) (c0 : Nat) (l0 : List (S41)) (a1 : Int) (a2 : Int) (r : Bool) (w : World) (hr0 : Kd.C k41 w A0 l0.length l0) (hc0 : l0.length ≤ c0) (h : flyleafref15_Covers.f k l0 a1 a2 = some r) :
    Calls Try.prog 45 #[.slice A0 l0.length c0, .int .i64 a1, .int .i64 a2] w fun e w' => e = .returned (.bool r) ∧ Below w.heap.size w w' := by
 have HR0 := Aside0.mk hr0
 have HC0 := Aside0.mk hc0
 clear hr0 hc0
 have HB := Aside0.mk (Below.refl w.heap.size w)
 have H : (if a1 ≥ a2 then (some true) else (if a1 < 0 then (flyleafref15_Covers.j0 k l0 a1 a2 true) else (flyleafref15_Covers.j0 k l0 a1 a2 (decide (a2 > 4096))))) = some r := h
 clear h
 by_cases c4 : a1 ≥ a2
 · rw [if_pos c4] at H
   have c4b0 : decide (a2 ≤ a1) = true := decide_eq_true c4
   clear c4
   obtain rfl := Option.some.inj H
   go_enter Try.func45, Try.ntmps45
   go_wp2
   go_ret
   exact ⟨by first | rfl | (simp [errW_none, errW_some] <;> rfl) | (simp [*, errW_none, errW_some] <;> rfl), by repeat (first | (with_reducible first | exact HB.out | apply below_alloc | apply pw_below_drewN | apply below_drew1) | exact HB.out)⟩
 rw [if_neg c4] at H
 have c4b0 : decide (a2 ≤ a1) = false := decide_eq_false c4
 clear c4
 have HC5 := Aside0.mk H
 clear H
 go_enter Try.func45, Try.ntmps45
 go_upto_region 3 with (fail)
 go_cut [17] (fun v17 wc => ∃ (kq : Nat) (x17_4 : Bool), v17 = .bool x17_4 ∧ Aside0 (flyleafref15_Covers.j0 kq l0 a1 a2 x17_4 = some r) ∧ Aside0 (kq ≤ k) ∧ Aside0 (Below w.heap.size w wc))
 case first =>
  have H := HC5.out
  clear HC5
  by_cases c6 : a1 < 0
  · rw [if_pos c6] at H
    have c6b0 : decide (a1 < 0) = true := decide_eq_true c6
    clear c6
    (first | rw [c6b0] | (simp only [i64_w, i32_w]; rw [c6b0]) | skip)
    have H' := Aside0.mk H
    clear H
    go_wp2
    go_meet
    case rel => exact ⟨_, (true), (by first | rfl | (simp; done) | (simp [*]; done)), H', ⟨by first | omega | exact Nat.le_refl _⟩, ⟨by repeat (first | (with_reducible first | exact HB.out | apply below_alloc | apply pw_below_drewN | apply below_drew1) | exact HB.out)⟩⟩
  rw [if_neg c6] at H
  have c6b0 : decide (a1 < 0) = false := decide_eq_false c6
  clear c6
  (first | rw [c6b0] | (simp only [i64_w, i32_w]; rw [c6b0]) | skip)
  have H' := Aside0.mk H
  clear H
  go_wp2
  go_meet
  case rel => exact ⟨_, (decide (a2 > 4096)), (by first | rfl | (simp; done) | (simp [*]; done)), H', ⟨by first | omega | exact Nat.le_refl _⟩, ⟨by repeat (first | (with_reducible first | exact HB.out | apply below_alloc | apply pw_below_drewN | apply below_drew1) | exact HB.out)⟩⟩
 case rest =>
  clear HC5
  try clear p2
  try clear c4
  try clear c4b0
  try clear c6
  try clear c6b0
  obtain ⟨kq, x17_4, rfl, HA, HJ4, HB⟩ := hcut
  cases kq with
  | zero => exact absurd HA.out (by simp [flyleafref15_Covers.j0])
  | succ kj4 =>
   have H := HA.out
   clear HA
   simp only [flyleafref15_Covers.j0] at H
   by_cases c7 : x17_4 = true
   · subst c7
     have H1 : (some false) = some r := by rw [if_pos rfl] at H; exact H
     clear H
     have H := H1
     clear H1
     obtain rfl := Option.some.inj H
     go_wp2
     go_ret
     exact ⟨by first | rfl | (simp [errW_none, errW_some] <;> rfl) | (simp [*, errW_none, errW_some] <;> rfl), by repeat (first | (with_reducible first | exact HB.out | apply below_alloc | apply pw_below_drewN | apply below_drew1) | exact HB.out)⟩
   replace c7 := Bool.eq_false_iff.mpr c7
   subst c7
   have H1 : ((flyleafref15_Spread.f kj4 l0).bind fun t164 => (flyleafref15_Covers.l0 kj4 a2 t164 a1)) = some r := by rw [if_neg (show ¬ (false = true) by decide)] at H; exact H
   clear H
   have H := H1
   clear H1
   replace H := Option.bind_eq_some_iff.mp H
   obtain ⟨t164, A80, H⟩ := H
   replace H : (flyleafref15_Covers.l0 kj4 a2 t164 a1) = some r := H
   have A8 := Aside0.mk A80
   clear A80
   have H' := Aside0.mk H
   clear H
   go_wp2_with (first | ((with_reducible refine gate_callee (f := 44) rfl ?_); refine goesL_ (some 19) rfl rfl Try.func44 (by kernel_rfl) rfl #[.slice A0 l0.length c0] rfl (by (try simp only [List.map_toArray, List.map_cons, List.map_nil]); first | done | rfl | (simp only [List.length_drop, List.length_take]; rfl)) ?_; (with_reducible refine (flyleafref15_Spread.calls kj4 _ _ l0 t164 _ ?side1 ?side2 A8.out).mono ?_); (case side1 => repeat (first | exact (Kd.C_below HR0.out HB.out) | (with_reducible refine Kd.C_alloc ?_ _) | (with_reducible refine Kd.C_drewN ?_ _) | (with_reducible refine Kd.C_drew ?_))); (case side2 => exact HC0.out); rintro e w9 ⟨v165, rfl, ho0, hb⟩; refine ⟨_, rfl, ?_⟩; have n0_ := Aside0.mk (Kd.R_lower ho0 (below_size (by repeat (first | (with_reducible first | exact HB.out | apply below_alloc | apply pw_below_drewN | apply below_drew1) | exact HB.out)))); have n1_ := Aside0.mk (below_step (by repeat (first | (with_reducible first | exact HB.out | apply below_alloc | apply pw_below_drewN | apply below_drew1) | exact HB.out)) hb); clear HB; have HO166 := n0_; have HB := n1_; clear n0_ n1_; (try clear hb); (try clear hb2); (try clear hk); (try clear hi); (try clear ho0)))
   go_loopg [8] kj4 (fun kq v8 w' => ∃ (x8_2 : Int), v8 = .int .i64 x8_2 ∧ Aside0 (flyleafref15_Covers.l0 kq a2 t164 x8_2 = some r) ∧ Aside0 (kq ≤ kj4) ∧ Aside0 (Kd.R k87 87 w' w.heap.size (fun _ => True) v165 t164) ∧ Aside0 (Below w.heap.size w w'))
   case atStart => exact ⟨(a1), (by first | rfl | (simp; done) | (simp [*]; done)), H', ⟨Nat.le_refl _⟩, ⟨by (with_reducible repeat (first | apply Kd.R_alloc | apply Kd.R_drewN | apply Kd.R_drew)); exact HO166.out⟩, ⟨by repeat (first | (with_reducible first | exact HB.out | apply below_alloc | apply pw_below_drewN | apply below_drew1) | exact HB.out)⟩⟩
   case round =>
    clear H'
    try clear p2
    try clear c4
    try clear c4b0
    try clear c6
    try clear c6b0
    try clear c7
    try clear p2
    obtain ⟨x8_2, rfl, HA, HK2, HO_7, HB⟩ := hrel
    cases gk with
    | zero => exact absurd HA.out (by simp [flyleafref15_Covers.l0])
    | succ k2 =>
     have H := HA.out
     clear HA
     simp only [flyleafref15_Covers.l0] at H
     by_cases c10 : x8_2 < a2
     rotate_left
     · rw [if_neg c10] at H
       have c10b0 : decide (x8_2 < a2) = false := decide_eq_false c10
       clear c10
       obtain rfl := Option.some.inj H
       go_wp2
       go_ret
       exact ⟨by first | rfl | (simp [errW_none, errW_some] <;> rfl) | (simp [*, errW_none, errW_some] <;> rfl), by repeat (first | (with_reducible first | exact HB.out | apply below_alloc | apply pw_below_drewN | apply below_drew1) | exact HB.out)⟩
     rw [if_pos c10] at H
     have c10b0 : decide (x8_2 < a2) = true := decide_eq_true c10
     clear c10
     by_cases c11 : 0 ≤ x8_2
     rotate_left
     · rw [if_neg c11] at H
       exact absurd H (by simp)
     rw [if_pos c11] at H
     have c11b0 : decide (0 ≤ x8_2) = true := decide_eq_true c11
     clear c11
     by_cases c12 : x8_2 < (t164.length : Int)
     rotate_left
     · rw [if_neg c12] at H
       exact absurd H (by simp)
     rw [if_pos c12] at H
     have c12b0 : decide (x8_2 < (t164.length : Int)) = true := decide_eq_true c12
     clear c12
     obtain ⟨bq13, hbq13⟩ : ∃ b_ : Bool, b_ = ((rd_T87 t164 x8_2).f1) := ⟨_, rfl⟩
     replace H : (if (bq13 = true) then (flyleafref15_Covers.l0 k2 a2 t164 (wrap64 (x8_2 + 1))) else (some false)) = some r := by rw [← hbq13] at H; exact H
     have Nbq13 := Aside0.mk hbq13
     clear hbq13
     by_cases c14 : (bq13 = true)
     rotate_left
     · replace c14 := Bool.eq_false_iff.mpr c14
       subst c14
       have H1 : (some false) = some r := by rw [if_neg (show ¬ (false = true) by decide)] at H; exact H
       clear H
       have H := H1
       clear H1
       obtain rfl := Option.some.inj H
       obtain ⟨Ao16, co16, eo16⟩ := Kd.R_slice HO_7.out
       subst eo16
       have p167 : 0 ≤ (x8_2 : Int) := of_decide_eq_true (by first | (with_reducible assumption) | assumption)
       have q167 : x8_2 < (t164.length : Int) := of_decide_eq_true (by first | (with_reducible assumption) | assumption)
       obtain ⟨ad167, e167, hx167_0, hx167_1, hx167_2, hx167_3, hx167_4, hx167_5, hx167_6⟩ := at_T87 (Kd.R_reads' HO_7.out).2.2 x8_2 p167 q167
       (try rw [← Nbq13.out] at hx167_6)
       cases e167
       replace p167 := eq_true p167
       replace q167 := eq_true q167
       go_wp2
       go_ret
       exact ⟨by first | rfl | (simp [errW_none, errW_some] <;> rfl) | (simp [*, errW_none, errW_some] <;> rfl), by repeat (first | (with_reducible first | exact HB.out | apply below_alloc | apply pw_below_drewN | apply below_drew1) | exact HB.out)⟩
     subst c14
     have H1 : (flyleafref15_Covers.l0 k2 a2 t164 (wrap64 (x8_2 + 1))) = some r := by rw [if_pos rfl] at H; exact H
     clear H
     have H := H1
     clear H1
     have H' := Aside0.mk H
     clear H
     obtain ⟨Ao15, co15, eo15⟩ := Kd.R_slice HO_7.out
     subst eo15
     have p167 : 0 ≤ (x8_2 : Int) := of_decide_eq_true (by first | (with_reducible assumption) | assumption)
     have q167 : x8_2 < (t164.length : Int) := of_decide_eq_true (by first | (with_reducible assumption) | assumption)
     obtain ⟨ad167, e167, hx167_0, hx167_1, hx167_2, hx167_3, hx167_4, hx167_5, hx167_6⟩ := at_T87 (Kd.R_reads' HO_7.out).2.2 x8_2 p167 q167
     (try rw [← Nbq13.out] at hx167_6)
     cases e167
     replace p167 := eq_true p167
     replace q167 := eq_true q167
     go_wp2
     go_roundg k2
     case measure => have := HJ4.out; have := HK2.out; omega
     case rel => exact ⟨(wrap64 (x8_2 + 1)), (by first | rfl | (simp; done) | (simp [*]; done)), H', ⟨by have := HJ4.out; have := HK2.out; omega⟩, ⟨by (with_reducible repeat (first | apply Kd.R_alloc | apply Kd.R_drewN | apply Kd.R_drew)); exact HO_7.out⟩, ⟨by repeat (first | (with_reducible first | exact HB.out | apply below_alloc | apply pw_below_drewN | apply below_drew1) | exact HB.out)⟩⟩

/-! ### flyleafref15_Protect: function 85 -/
mutual
def flyleafref15_Protect.j0 : Nat → List (S41) → Int → Int → Int → Bool → Option ((List (S41)) × Int)
  | 0, _, _, _, _, _ => none
  | k + 1, x0, x1, x2, x3, x23 => if x23 = true then (some (([] : List (S41)), 1)) else ((flyleafref15_Covers.f k x0 x1 x2).bind fun t168 => (if t168 = true then ((flyleafref15_Spread.f k x0).bind fun t169 => (flyleafref15_Protect.l0 k x2 x3 t169 x1)) else (some (([] : List (S41)), 12))))
def flyleafref15_Protect.l0 : Nat → Int → Int → List (S87) → Int → Option ((List (S41)) × Int)
  | 0, _, _, _, _ => none
  | k + 1, x2, x3, x11, x12 => if x12 < x2 then (if 0 ≤ x12 then (if x12 < (x11.length : Int) then (flyleafref15_Protect.l0 k x2 x3 (x11.set (x12 : Int).toNat (⟨(⟨(rd_T87 x11 x12).f0.f0, (rd_T87 x11 x12).f0.f1, x3, (rd_T87 x11 x12).f0.f3, (rd_T87 x11 x12).f0.f4, (rd_T87 x11 x12).f0.f5⟩ : S41), (rd_T87 x11 x12).f1⟩ : S87)) (wrap64 (x12 + 1))) else (none)) else (none)) else ((flyleafref15_Row.f k x11).bind fun t173 => (some (t173, 0)))
end
def flyleafref15_Protect.f (k : Nat) (l0 : List (S41)) (a1 : Int) (a2 : Int) (a3 : Int) : Option ((List (S41)) × Int) := if a3 < 0 then (flyleafref15_Protect.j0 k l0 a1 a2 a3 true) else (if a3 > 7 then (flyleafref15_Protect.j0 k l0 a1 a2 a3 true) else (flyleafref15_Protect.j0 k l0 a1 a2 a3 (decide (a1 ≥ a2))))
theorem flyleafref15_Protect.mono_l : ∀ k, (∀ y0 y1 y2 y3 y4, LeO (flyleafref15_Protect.j0 k y0 y1 y2 y3 y4) (flyleafref15_Protect.j0 (k + 1) y0 y1 y2 y3 y4)) ∧ (∀ y0 y1 y2 y3, LeO (flyleafref15_Protect.l0 k y0 y1 y2 y3) (flyleafref15_Protect.l0 (k + 1) y0 y1 y2 y3))
  | 0 => ⟨fun _ _ _ _ _ r h => by simp [flyleafref15_Protect.j0] at h, fun _ _ _ _ r h => by simp [flyleafref15_Protect.l0] at h⟩
  | k + 1 => by
    obtain ⟨ih0, ih1⟩ := flyleafref15_Protect.mono_l k
    refine ⟨?_, ?_⟩
    · intro y0 y1 y2 y3 y4
      unfold flyleafref15_Protect.j0
      repeat' first
      | (with_reducible exact ih0 _ _ _ _ _)
      | (with_reducible exact ih1 _ _ _ _)
      | (with_reducible exact flyleafref15_Covers.mono _ _ _ _)
      | (with_reducible exact flyleafref15_Row.mono _ _)
      | (with_reducible exact flyleafref15_Spread.mono _ _)
      | (with_reducible exact LeO.refl _)
      | (with_reducible exact LeO.none _)
      | (with_reducible refine LeO.ite ?_ ?_)
      | (with_reducible refine LeO.bind ?_ (fun _ => ?_))
      | exact ih0 _ _ _ _ _
      | exact ih1 _ _ _ _
      | exact flyleafref15_Covers.mono _ _ _ _
      | exact flyleafref15_Row.mono _ _
      | exact flyleafref15_Spread.mono _ _
      | exact LeO.none _
      | refine LeO.ite ?_ ?_
      | refine LeO.bind ?_ (fun _ => ?_)
    · intro y0 y1 y2 y3
      unfold flyleafref15_Protect.l0
      repeat' first
      | (with_reducible exact ih0 _ _ _ _ _)
      | (with_reducible exact ih1 _ _ _ _)
      | (with_reducible exact flyleafref15_Covers.mono _ _ _ _)
      | (with_reducible exact flyleafref15_Row.mono _ _)
      | (with_reducible exact flyleafref15_Spread.mono _ _)
      | (with_reducible exact LeO.refl _)
      | (with_reducible exact LeO.none _)
      | (with_reducible refine LeO.ite ?_ ?_)
      | (with_reducible refine LeO.bind ?_ (fun _ => ?_))
      | exact ih0 _ _ _ _ _
      | exact ih1 _ _ _ _
      | exact flyleafref15_Covers.mono _ _ _ _
      | exact flyleafref15_Row.mono _ _
      | exact flyleafref15_Spread.mono _ _
      | exact LeO.none _
      | refine LeO.ite ?_ ?_
      | refine LeO.bind ?_ (fun _ => ?_)
theorem flyleafref15_Protect.mono : ∀ a0 a1 a2 a3 k, LeO (flyleafref15_Protect.f k a0 a1 a2 a3) (flyleafref15_Protect.f (k + 1) a0 a1 a2 a3) := by
  intro a0 a1 a2 a3 k
  obtain ⟨ih0, ih1⟩ := flyleafref15_Protect.mono_l k
  unfold flyleafref15_Protect.f
  repeat' first
      | (with_reducible exact ih0 _ _ _ _ _)
      | (with_reducible exact ih1 _ _ _ _)
      | (with_reducible exact flyleafref15_Covers.mono _ _ _ _)
      | (with_reducible exact flyleafref15_Row.mono _ _)
      | (with_reducible exact flyleafref15_Spread.mono _ _)
      | (with_reducible exact LeO.refl _)
      | (with_reducible exact LeO.none _)
      | (with_reducible refine LeO.ite ?_ ?_)
      | (with_reducible refine LeO.bind ?_ (fun _ => ?_))
      | exact ih0 _ _ _ _ _
      | exact ih1 _ _ _ _
      | exact flyleafref15_Covers.mono _ _ _ _
      | exact flyleafref15_Row.mono _ _
      | exact flyleafref15_Spread.mono _ _
      | exact LeO.none _
      | refine LeO.ite ?_ ?_
      | refine LeO.bind ?_ (fun _ => ?_)
set_option maxHeartbeats 8000000 in
set_option maxRecDepth 100000 in
theorem flyleafref15_Protect.calls (k : Nat) (A0 : Option Addr) (c0 : Nat) (l0 : List (S41)) (a1 : Int) (a2 : Int) (a3 : Int) (r1 : List (S41)) (r2 : Int) (w : World) (hr0 : Kd.C k41 w A0 l0.length l0) (hc0 : l0.length ≤ c0) (h : flyleafref15_Protect.f k l0 a1 a2 a3 = some (r1, r2)) :
    Calls Try.prog 85 #[.slice A0 l0.length c0, .int .i64 a1, .int .i64 a2, .int .i64 a3] w fun e w' => ∃ v0_ : Value, e = .returned (.tuple #[v0_, .int .i64 r2]) ∧ Kd.R k41 41 w' w.heap.size (fun _ => True) v0_ r1 ∧ Below w.heap.size w w' := by
 have HR0 := Aside0.mk hr0
 have HC0 := Aside0.mk hc0
 clear hr0 hc0
 have HB := Aside0.mk (Below.refl w.heap.size w)
 have H : (if a3 < 0 then (flyleafref15_Protect.j0 k l0 a1 a2 a3 true) else (if a3 > 7 then (flyleafref15_Protect.j0 k l0 a1 a2 a3 true) else (flyleafref15_Protect.j0 k l0 a1 a2 a3 (decide (a1 ≥ a2))))) = some (r1, r2) := h
 clear h
 have HC5 := Aside0.mk H
 clear H
 go_enter Try.func85, Try.ntmps85
 go_upto_region 1 with (fail)
 go_cut [23] (fun v23 wc => ∃ (kq : Nat) (x23_4 : Bool), v23 = .bool x23_4 ∧ Aside0 (flyleafref15_Protect.j0 kq l0 a1 a2 a3 x23_4 = some (r1, r2)) ∧ Aside0 (kq ≤ k) ∧ Aside0 (Below w.heap.size w wc))
 case first =>
  have H := HC5.out
  clear HC5
  by_cases c6 : a3 < 0
  · rw [if_pos c6] at H
    have c6b0 : decide (a3 < 0) = true := decide_eq_true c6
    clear c6
    (first | rw [c6b0] | (simp only [i64_w, i32_w]; rw [c6b0]) | skip)
    have H' := Aside0.mk H
    clear H
    go_wp2
    go_meet
    case rel => exact ⟨_, (true), (by first | rfl | (simp; done) | (simp [*]; done)), H', ⟨by first | omega | exact Nat.le_refl _⟩, ⟨by repeat (first | (with_reducible first | exact HB.out | apply below_alloc | apply pw_below_drewN | apply below_drew1) | exact HB.out)⟩⟩
  rw [if_neg c6] at H
  have c6b0 : decide (a3 < 0) = false := decide_eq_false c6
  clear c6
  (first | rw [c6b0] | (simp only [i64_w, i32_w]; rw [c6b0]) | skip)
  by_cases c7 : a3 > 7
  · rw [if_pos c7] at H
    have c7b0 : decide (7 < a3) = true := decide_eq_true c7
    clear c7
    have H' := Aside0.mk H
    clear H
    go_wp2
    go_meet
    case rel => exact ⟨_, (true), (by first | rfl | (simp; done) | (simp [*]; done)), H', ⟨by first | omega | exact Nat.le_refl _⟩, ⟨by repeat (first | (with_reducible first | exact HB.out | apply below_alloc | apply pw_below_drewN | apply below_drew1) | exact HB.out)⟩⟩
  rw [if_neg c7] at H
  have c7b0 : decide (7 < a3) = false := decide_eq_false c7
  clear c7
  have H' := Aside0.mk H
  clear H
  go_wp2
  go_meet
  case rel => exact ⟨_, (decide (a1 ≥ a2)), (by first | rfl | (simp; done) | (simp [*]; done)), H', ⟨by first | omega | exact Nat.le_refl _⟩, ⟨by repeat (first | (with_reducible first | exact HB.out | apply below_alloc | apply pw_below_drewN | apply below_drew1) | exact HB.out)⟩⟩
 case rest =>
  clear HC5
  try clear p2
  try clear c6
  try clear c6b0
  try clear c7
  try clear c7b0
  obtain ⟨kq, x23_4, rfl, HA, HJ4, HB⟩ := hcut
  cases kq with
  | zero => exact absurd HA.out (by simp [flyleafref15_Protect.j0])
  | succ kj4 =>
   have H := HA.out
   clear HA
   simp only [flyleafref15_Protect.j0] at H
   by_cases c8 : x23_4 = true
   · subst c8
     have H1 : (some (([] : List (S41)), 1)) = some (r1, r2) := by rw [if_pos rfl] at H; exact H
     clear H
     have H := H1
     clear H1
     simp only [Option.some.injEq, Prod.mk.injEq] at H
     obtain ⟨rfl, rfl⟩ := H
     go_wp2
     go_ret2
     exact ⟨_, by first | rfl | (simp [errW_none, errW_some] <;> rfl) | (simp [*, errW_none, errW_some] <;> rfl), by first | exact Kd.R_nil _ _ _ _ _ | exact Kd.N_nil _ _ _ _ _ | exact Kd.V_nil _ _ _ _ _ | exact Kd.Q_nil _ _ _ _ _ | exact Kd.S_nil _ _ _ _ _, by repeat (first | (with_reducible first | exact HB.out | apply below_alloc | apply pw_below_drewN | apply below_drew1) | exact HB.out)⟩
   replace c8 := Bool.eq_false_iff.mpr c8
   subst c8
   have H1 : ((flyleafref15_Covers.f kj4 l0 a1 a2).bind fun t168 => (if t168 = true then ((flyleafref15_Spread.f kj4 l0).bind fun t169 => (flyleafref15_Protect.l0 kj4 a2 a3 t169 a1)) else (some (([] : List (S41)), 12)))) = some (r1, r2) := by rw [if_neg (show ¬ (false = true) by decide)] at H; exact H
   clear H
   have H := H1
   clear H1
   replace H := Option.bind_eq_some_iff.mp H
   obtain ⟨t168, A90, H⟩ := H
   replace H : (if t168 = true then ((flyleafref15_Spread.f kj4 l0).bind fun t169 => (flyleafref15_Protect.l0 kj4 a2 a3 t169 a1)) else (some (([] : List (S41)), 12))) = some (r1, r2) := H
   have A9 := Aside0.mk A90
   clear A90
   by_cases c10 : t168 = true
   rotate_left
   · replace c10 := Bool.eq_false_iff.mpr c10
     subst c10
     have H1 : (some (([] : List (S41)), 12)) = some (r1, r2) := by rw [if_neg (show ¬ (false = true) by decide)] at H; exact H
     clear H
     have H := H1
     clear H1
     simp only [Option.some.injEq, Prod.mk.injEq] at H
     obtain ⟨rfl, rfl⟩ := H
     go_wp2_with (first | ((with_reducible refine gate_callee (f := 45) rfl ?_); refine goesL_ (some 27) rfl rfl Try.func45 (by kernel_rfl) rfl #[.slice A0 l0.length c0, .int .i64 a1, .int .i64 a2] rfl (by (try simp only [List.map_toArray, List.map_cons, List.map_nil]); first | done | rfl | (simp only [List.length_drop, List.length_take]; rfl)) ?_; (with_reducible refine (flyleafref15_Covers.calls kj4 _ _ l0 a1 a2 false _ ?side1 ?side2 A9.out).mono ?_); (case side1 => repeat (first | exact (Kd.C_below HR0.out HB.out) | (with_reducible refine Kd.C_alloc ?_ _) | (with_reducible refine Kd.C_drewN ?_ _) | (with_reducible refine Kd.C_drew ?_))); (case side2 => exact HC0.out); rintro e w23 ⟨rfl, hb⟩; refine ⟨_, rfl, ?_⟩; have n0_ := Aside0.mk (below_step (by repeat (first | (with_reducible first | exact HB.out | apply below_alloc | apply pw_below_drewN | apply below_drew1) | exact HB.out)) hb); clear HB; have HB := n0_; clear n0_; (try clear hb); (try clear hb2); (try clear hk); (try clear hi)))
     go_ret2
     exact ⟨_, by first | rfl | (simp [errW_none, errW_some] <;> rfl) | (simp [*, errW_none, errW_some] <;> rfl), by first | exact Kd.R_nil _ _ _ _ _ | exact Kd.N_nil _ _ _ _ _ | exact Kd.V_nil _ _ _ _ _ | exact Kd.Q_nil _ _ _ _ _ | exact Kd.S_nil _ _ _ _ _, by repeat (first | (with_reducible first | exact HB.out | apply below_alloc | apply pw_below_drewN | apply below_drew1) | exact HB.out)⟩
   subst c10
   have H1 : ((flyleafref15_Spread.f kj4 l0).bind fun t169 => (flyleafref15_Protect.l0 kj4 a2 a3 t169 a1)) = some (r1, r2) := by rw [if_pos rfl] at H; exact H
   clear H
   have H := H1
   clear H1
   replace H := Option.bind_eq_some_iff.mp H
   obtain ⟨t169, A110, H⟩ := H
   replace H : (flyleafref15_Protect.l0 kj4 a2 a3 t169 a1) = some (r1, r2) := H
   have A11 := Aside0.mk A110
   clear A110
   have H' := Aside0.mk H
   clear H
   go_wp2_with (first | ((with_reducible refine gate_callee (f := 45) rfl ?_); refine goesL_ (some 27) rfl rfl Try.func45 (by kernel_rfl) rfl #[.slice A0 l0.length c0, .int .i64 a1, .int .i64 a2] rfl (by (try simp only [List.map_toArray, List.map_cons, List.map_nil]); first | done | rfl | (simp only [List.length_drop, List.length_take]; rfl)) ?_; (with_reducible refine (flyleafref15_Covers.calls kj4 _ _ l0 a1 a2 true _ ?side1 ?side2 A9.out).mono ?_); (case side1 => repeat (first | exact (Kd.C_below HR0.out HB.out) | (with_reducible refine Kd.C_alloc ?_ _) | (with_reducible refine Kd.C_drewN ?_ _) | (with_reducible refine Kd.C_drew ?_))); (case side2 => exact HC0.out); rintro e w12 ⟨rfl, hb⟩; refine ⟨_, rfl, ?_⟩; have n0_ := Aside0.mk (below_step (by repeat (first | (with_reducible first | exact HB.out | apply below_alloc | apply pw_below_drewN | apply below_drew1) | exact HB.out)) hb); clear HB; have HB := n0_; clear n0_; (try clear hb); (try clear hb2); (try clear hk); (try clear hi)) | ((with_reducible refine gate_callee (f := 44) rfl ?_); refine goesL_ (some 31) rfl rfl Try.func44 (by kernel_rfl) rfl #[.slice A0 l0.length c0] rfl (by (try simp only [List.map_toArray, List.map_cons, List.map_nil]); first | done | rfl | (simp only [List.length_drop, List.length_take]; rfl)) ?_; (with_reducible refine (flyleafref15_Spread.calls kj4 _ _ l0 t169 _ ?side1 ?side2 A11.out).mono ?_); (case side1 => repeat (first | exact (Kd.C_below HR0.out HB.out) | (with_reducible refine Kd.C_alloc ?_ _) | (with_reducible refine Kd.C_drewN ?_ _) | (with_reducible refine Kd.C_drew ?_))); (case side2 => exact HC0.out); rintro e w13 ⟨v170, rfl, ho0, hb⟩; refine ⟨_, rfl, ?_⟩; have n0_ := Aside0.mk (Kd.R_lower ho0 (below_size (by repeat (first | (with_reducible first | exact HB.out | apply below_alloc | apply pw_below_drewN | apply below_drew1) | exact HB.out)))); have n1_ := Aside0.mk (below_step (by repeat (first | (with_reducible first | exact HB.out | apply below_alloc | apply pw_below_drewN | apply below_drew1) | exact HB.out)) hb); clear HB; have HO171 := n0_; have HB := n1_; clear n0_ n1_; (try clear hb); (try clear hb2); (try clear hk); (try clear hi); (try clear ho0)))
   go_loopg [12] kj4 (fun kq v12 w' => ∃ (x11_2 : List (S87)) (x12_2 : Int), v12 = .int .i64 x12_2 ∧ Aside0 (flyleafref15_Protect.l0 kq a2 a3 x11_2 x12_2 = some (r1, r2)) ∧ Aside0 (kq ≤ kj4) ∧ Aside0 (Kd.R k87 87 w' w.heap.size (fun _ => True) v170 x11_2) ∧ Aside0 (Below w.heap.size w w'))
   case atStart => exact ⟨(t169), (a1), (by first | rfl | (simp; done) | (simp [*]; done)), H', ⟨Nat.le_refl _⟩, ⟨by (with_reducible repeat (first | apply Kd.R_alloc | apply Kd.R_drewN | apply Kd.R_drew)); exact HO171.out⟩, ⟨by repeat (first | (with_reducible first | exact HB.out | apply below_alloc | apply pw_below_drewN | apply below_drew1) | exact HB.out)⟩⟩
   case round =>
    clear H'
    try clear c1
    try clear p2
    try clear c4
    try clear c6
    try clear c6b0
    try clear c7
    try clear c7b0
    try clear c8
    try clear c10
    try clear p2
    obtain ⟨x11_2, x12_2, rfl, HA, HK2, HO_11, HB⟩ := hrel
    cases gk with
    | zero => exact absurd HA.out (by simp [flyleafref15_Protect.l0])
    | succ k2 =>
     have H := HA.out
     clear HA
     simp only [flyleafref15_Protect.l0] at H
     by_cases c14 : x12_2 < a2
     rotate_left
     · rw [if_neg c14] at H
       have c14b0 : decide (x12_2 < a2) = false := decide_eq_false c14
       clear c14
       replace H := Option.bind_eq_some_iff.mp H
       obtain ⟨t173, A200, H⟩ := H
       replace H : (some (t173, 0)) = some (r1, r2) := H
       have A20 := Aside0.mk A200
       clear A200
       simp only [Option.some.injEq, Prod.mk.injEq] at H
       obtain ⟨rfl, rfl⟩ := H
       obtain ⟨Ao21, co21, eo21⟩ := Kd.R_slice HO_11.out
       subst eo21
       go_wp2_with (first | ((with_reducible refine gate_callee (f := 116) rfl ?_); refine goesL_ (some 45) rfl rfl Try.func116 (by kernel_rfl) rfl #[.slice Ao21 x11_2.length co21] rfl (by (try simp only [List.map_toArray, List.map_cons, List.map_nil]); first | done | rfl | (simp only [List.length_drop, List.length_take]; rfl)) ?_; (with_reducible refine (flyleafref15_Row.calls k2 _ _ x11_2 t173 _ ?side1 ?side2 A20.out).mono ?_); (case side1 => repeat (first | exact (Kd.R_reads' HO_11.out).2.2 | (with_reducible refine Kd.C_alloc ?_ _) | (with_reducible refine Kd.C_drewN ?_ _) | (with_reducible refine Kd.C_drew ?_))); (case side2 => exact (Kd.R_reads' HO_11.out).2.1); rintro e w22 ⟨v174, rfl, ho0, hb⟩; refine ⟨_, rfl, ?_⟩; have n0_ := Aside0.mk (Kd.R_below (by (with_reducible repeat (first | apply Kd.R_alloc | apply Kd.R_drewN | apply Kd.R_drew)); exact HO_11.out) hb); have n1_ := Aside0.mk (Kd.R_lower ho0 (below_size (by repeat (first | (with_reducible first | exact HB.out | apply below_alloc | apply pw_below_drewN | apply below_drew1) | exact HB.out)))); have n2_ := Aside0.mk (below_step (by repeat (first | (with_reducible first | exact HB.out | apply below_alloc | apply pw_below_drewN | apply below_drew1) | exact HB.out)) hb); clear HO_11; clear HB; have HO_11 := n0_; have HO175 := n1_; have HB := n2_; clear n0_ n1_ n2_; (try clear hb); (try clear hb2); (try clear hk); (try clear hi); (try clear ho0)))
       go_ret2
       exact ⟨_, by first | rfl | (simp [errW_none, errW_some] <;> rfl) | (simp [*, errW_none, errW_some] <;> rfl), by (with_reducible repeat (first | apply Kd.R_alloc | apply Kd.R_drewN | apply Kd.R_drew)); exact HO175.out, by repeat (first | (with_reducible first | exact HB.out | apply below_alloc | apply pw_below_drewN | apply below_drew1) | exact HB.out)⟩
     rw [if_pos c14] at H
     have c14b0 : decide (x12_2 < a2) = true := decide_eq_true c14
     clear c14
     by_cases c15 : 0 ≤ x12_2
     rotate_left
     · rw [if_neg c15] at H
       exact absurd H (by simp)
     rw [if_pos c15] at H
     have c15b0 : decide (0 ≤ x12_2) = true := decide_eq_true c15
     clear c15
     by_cases c16 : x12_2 < (x11_2.length : Int)
     rotate_left
     · rw [if_neg c16] at H
       exact absurd H (by simp)
     rw [if_pos c16] at H
     have c16b0 : decide (x12_2 < (x11_2.length : Int)) = true := decide_eq_true c16
     clear c16
     obtain ⟨y172, hy172⟩ : ∃ y_ : List (S87), y_ = (x11_2.set (x12_2 : Int).toNat (⟨(⟨(rd_T87 x11_2 x12_2).f0.f0, (rd_T87 x11_2 x12_2).f0.f1, a3, (rd_T87 x11_2 x12_2).f0.f3, (rd_T87 x11_2 x12_2).f0.f4, (rd_T87 x11_2 x12_2).f0.f5⟩ : S41), (rd_T87 x11_2 x12_2).f1⟩ : S87)) := ⟨_, rfl⟩
     replace H : (flyleafref15_Protect.l0 k2 a2 a3 y172 (wrap64 (x12_2 + 1))) = some (r1, r2) := by first | (rw [hy172]; with_reducible exact H) | (have H2_ := (Option.bind_some _ _).symm.trans H; rw [hy172]; with_reducible exact H2_) | (have H2_ := (Option.bind_some _ _).symm.trans H; with_reducible exact H2_) | with_reducible exact H | (rw [hy172]; exact H) | exact H
     have Ny172 := Aside0.mk hy172
     clear hy172
     have H' := Aside0.mk H
     clear H
     have p17 : 0 ≤ (x12_2 : Int) := of_decide_eq_true (by first | (with_reducible assumption) | assumption)
     have q17 : (x12_2 : Int) < ((x11_2.length : Int) : Int) := of_decide_eq_true (by first | (with_reducible assumption) | assumption)
     obtain ⟨go17, co17, eo17, gb17, gl17, cl17, HG17⟩ := Kd.R_form HO_11.out (by omega)
     (first | cases eo17 | (injection eo17 with ea_ en_ ec_; (first | subst ea_ | (injection ea_ with ea_; subst ea_)); subst ec_; clear en_))
     have GB17 := Aside0.mk gb17
     have GG17 := Aside0.mk HG17
     clear gb17 gl17 HG17
     obtain ⟨ce17, hcl17, hM17, hcc17, hfr17⟩ := Kd.R_elem HO_11.out z87 (x12_2 : Int) p17 q17
     obtain rfl := k87_openM hM17
     have hx17_0 : wr.cell? ⟨go17, (x12_2 : Int).toNat * 7, none⟩ = some (.int .i64 ((rd_T87 x11_2 x12_2).f0.f0)) := hcc17 0 _ rfl
     have hx17_1 : wr.cell? ⟨go17, (x12_2 : Int).toNat * 7 + 1, none⟩ = some (.int .i64 ((rd_T87 x11_2 x12_2).f0.f1)) := hcc17 1 _ rfl
     have hx17_2 : wr.cell? ⟨go17, (x12_2 : Int).toNat * 7 + 2, none⟩ = some (.int .i64 ((rd_T87 x11_2 x12_2).f0.f2)) := hcc17 2 _ rfl
     have hx17_3 : wr.cell? ⟨go17, (x12_2 : Int).toNat * 7 + 3, none⟩ = some (.int .i64 ((rd_T87 x11_2 x12_2).f0.f3)) := hcc17 3 _ rfl
     have hx17_4 : wr.cell? ⟨go17, (x12_2 : Int).toNat * 7 + 4, none⟩ = some (.int .i64 ((rd_T87 x11_2 x12_2).f0.f4)) := hcc17 4 _ rfl
     have hx17_5 : wr.cell? ⟨go17, (x12_2 : Int).toNat * 7 + 5, none⟩ = some (.int .i64 ((rd_T87 x11_2 x12_2).f0.f5)) := hcc17 5 _ rfl
     have hx17_6 : wr.cell? ⟨go17, (x12_2 : Int).toNat * 7 + 6, none⟩ = some (.bool ((rd_T87 x11_2 x12_2).f1)) := hcc17 6 _ rfl
     have hf17_0 : wr.frozen? ⟨go17, (x12_2 : Int).toNat * 7, none⟩ = false := hfr17 0
     have hf17_1 : wr.frozen? ⟨go17, (x12_2 : Int).toNat * 7 + 1, none⟩ = false := hfr17 1
     have hf17_2 : wr.frozen? ⟨go17, (x12_2 : Int).toNat * 7 + 2, none⟩ = false := hfr17 2
     have hf17_3 : wr.frozen? ⟨go17, (x12_2 : Int).toNat * 7 + 3, none⟩ = false := hfr17 3
     have hf17_4 : wr.frozen? ⟨go17, (x12_2 : Int).toNat * 7 + 4, none⟩ = false := hfr17 4
     have hf17_5 : wr.frozen? ⟨go17, (x12_2 : Int).toNat * 7 + 5, none⟩ = false := hfr17 5
     have hf17_6 : wr.frozen? ⟨go17, (x12_2 : Int).toNat * 7 + 6, none⟩ = false := hfr17 6
     clear hcl17 hcc17 hfr17 hM17
     replace p17 := eq_true p17
     replace q17 := eq_true q17
     have HX18 := Aside0.mk (show Kd.R k87 87 wr w.heap.size (fun _ => True) (.slice (some ⟨go17, 0, none⟩) x11_2.length co17) x11_2 from (by (with_reducible repeat (first | apply Kd.R_alloc | apply Kd.R_drewN | apply Kd.R_drew)); exact HO_11.out))
     obtain ⟨ce18, hcl18, hM18, hcc18, hfr18⟩ := Kd.R_elem HX18.out z87 (x12_2 : Int) (of_decide_eq_true (by first | (with_reducible assumption) | assumption)) (by have h_ : (x12_2 : Int) < ((x11_2.length : Int) : Int) := of_decide_eq_true (by first | (with_reducible assumption) | assumption); first | exact h_ | (have e_ := (Kd.R_reads' HO_11.out).1; omega) | simpa using h_)
     obtain rfl := k87_openM hM18
     have HP18 := Kd.R_seg HX18.out (x12_2 : Int) (of_decide_eq_true (by first | (with_reducible assumption) | assumption)) (by have h_ : (x12_2 : Int) < ((x11_2.length : Int) : Int) := of_decide_eq_true (by first | (with_reducible assumption) | assumption); first | exact h_ | (have e_ := (Kd.R_reads' HO_11.out).1; omega) | simpa using h_) (seg := [.int .i64 a3]) (j := 2) hcl18 hcc18 (show 3 ≤ 7 from by decide) (x' := (⟨(⟨(rd_T87 x11_2 x12_2).f0.f0, (rd_T87 x11_2 x12_2).f0.f1, a3, (rd_T87 x11_2 x12_2).f0.f3, (rd_T87 x11_2 x12_2).f0.f4, (rd_T87 x11_2 x12_2).f0.f5⟩ : S41), (rd_T87 x11_2 x12_2).f1⟩ : S87)) (k87_mkM _ _ _ (⟨(⟨(rd_T87 x11_2 x12_2).f0.f0, (rd_T87 x11_2 x12_2).f0.f1, a3, (rd_T87 x11_2 x12_2).f0.f3, (rd_T87 x11_2 x12_2).f0.f4, (rd_T87 x11_2 x12_2).f0.f5⟩ : S41), (rd_T87 x11_2 x12_2).f1⟩ : S87) ) (fun _ hk => hk)
     have hx18_2 := hcc18 2 _ rfl
     (try simp only [show (k87).sz = 7 from rfl, Nat.mul_one, Nat.add_zero] at hx18_2)
     have hf18_2 := hfr18 2
     (try simp only [show (k87).sz = 7 from rfl, Nat.mul_one, Nat.add_zero] at hf18_2)
     clear hcl18 hcc18 hfr18 hM18
     go_wp2_with (first | ((with_reducible refine gate_store (t := 3) (p := 43) rfl ?_); refine store_event (t := 3) (p := 43) (v := ?vo_w19) (w1 := (wr.setCell ⟨go17, (x12_2 : Int).toNat * 7 + 2, none⟩ (.int .i64 a3))) ?hg ?ho ?hn ?hr ?_; (case ho => rfl); (case hg => rfl); (case hn => rfl); (case hr => first | (go_simp; done) | (go_simp; rfl)); intro w19 hw; have hg : wr.grownBy w19 (some go17) := (by rw [hw]; exact HP18.2); have hp_ : Kd.R k87 87 w19 w.heap.size (fun _ => True) (.slice (some ⟨go17, 0, none⟩) x11_2.length co17) y172 := (by rw [hw, Ny172.out]; exact HP18.1); clear HP18; have n0_ := Aside0.mk (hp_); have n1_ := Aside0.mk ((by rw [hw]; exact below_set (HB.out) GB17.out : Below w.heap.size w w19)); clear HO_11; clear HB; have HO_11 := n0_; have HB := n1_; clear n0_ n1_; clear hg hw hp_))
     go_roundg k2
     case measure => have := HJ4.out; have := HK2.out; omega
     case rel => exact ⟨(y172), (wrap64 (x12_2 + 1)), (by first | rfl | (simp; done) | (simp [*]; done)), H', ⟨by have := HJ4.out; have := HK2.out; omega⟩, ⟨by (with_reducible repeat (first | apply Kd.R_alloc | apply Kd.R_drewN | apply Kd.R_drew)); exact HO_11.out⟩, ⟨by repeat (first | (with_reducible first | exact HB.out | apply below_alloc | apply pw_below_drewN | apply below_drew1) | exact HB.out)⟩⟩

end Go.Proofs.Ytafmeagfockdfaa.Rg
