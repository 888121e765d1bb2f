-- Written by prn.py, a program of this session over the kit's printer. Not trusted: Lean checks it.
import Derived.Test.YtafmeagfockdfaaPl0
namespace Go.Proofs.Ytafmeagfockdfaa.Pl
open Go.RowKit Go.Proofs.YtafmeagfockdfaaW.PrintWords Go.Proofs.YtafmeagfockdfaaW.PrintLast Go.Proofs.YtafmeagfockdfaaW.PrintMore
attribute [local go_sem] max2_int min2_int max_two min_two max_three min_three max_four min_four   -- for this text's walks alone
set_option linter.unusedVariables false
set_option linter.unusedSimpArgs false

/-! ### flyleafref13_room: function 72 -/
def flyleafref13_room.f (a0 : Int) (a1 : Int) : Option (Bool) := if a0 ≥ 0 then (if a1 ≤ 1099511627776 then (if a0 ≤ a1 then (if (Int.tmod a0 64) = 0 then (some ((Int.tmod a1 64) == 0)) else (some false)) else (some false)) else (some false)) else (some false)
set_option maxHeartbeats 8000000 in
set_option maxRecDepth 100000 in
theorem flyleafref13_room.calls (a0 : Int) (a1 : Int) (r : Bool) (w : World) (h : flyleafref13_room.f a0 a1 = some r) :
    Calls Try.prog 72 #[.int .i64 a0, .int .i64 a1] w fun e w' => e = .returned (.bool r) ∧ Drawn0 w w' := by
  have H : (if a0 ≥ 0 then (if a1 ≤ 1099511627776 then (if a0 ≤ a1 then (if (Int.tmod a0 64) = 0 then (some ((Int.tmod a1 64) == 0)) else (some false)) else (some false)) else (some false)) else (some false)) = some r := h
  clear h
  by_cases c3 : a0 ≥ 0
  · rw [if_pos c3] at H
    have c3b0 : decide (0 ≤ a0) = true := decide_eq_true c3
    clear c3
    by_cases c4 : a1 ≤ 1099511627776
    · rw [if_pos c4] at H
      have c4b0 : decide (a1 ≤ 1099511627776) = true := decide_eq_true c4
      clear c4
      by_cases c5 : a0 ≤ a1
      · rw [if_pos c5] at H
        have c5b0 : decide (a0 ≤ a1) = true := decide_eq_true c5
        clear c5
        by_cases c6 : (Int.tmod a0 64) = 0
        · rw [if_pos c6] at H
          have c6b0 : ((Int.tmod a0 64) == 0) = true := beq_iff_eq.mpr c6
          have c6b1 : ((Int.tmod a0 64) != 0) = false := bne_eq_false_iff_eq.mpr c6
          clear c6
          obtain rfl := Option.some.inj H
          go_enter Try.func72, Try.ntmps72
          go_wp2
          go_ret
          exact ⟨by first | rfl | (simp; done) | (simp [*]; done), by repeat (first | exact Drawn0.refl _ | apply Drawn0.step)⟩
        · rw [if_neg c6] at H
          have c6b0 : ((Int.tmod a0 64) == 0) = false := beq_eq_false_iff_ne.mpr c6
          have c6b1 : ((Int.tmod a0 64) != 0) = true := bne_iff_ne.mpr c6
          obtain rfl := Option.some.inj H
          go_enter Try.func72, Try.ntmps72
          go_wp2
          go_ret
          exact ⟨by first | rfl | (simp; done) | (simp [*]; done), by repeat (first | exact Drawn0.refl _ | apply Drawn0.step)⟩
      · rw [if_neg c5] at H
        have c5b0 : decide (a0 ≤ a1) = false := decide_eq_false c5
        clear c5
        obtain rfl := Option.some.inj H
        go_enter Try.func72, Try.ntmps72
        go_wp2
        go_ret
        exact ⟨by first | rfl | (simp; done) | (simp [*]; done), by repeat (first | exact Drawn0.refl _ | apply Drawn0.step)⟩
    · rw [if_neg c4] at H
      have c4b0 : decide (a1 ≤ 1099511627776) = false := decide_eq_false c4
      clear c4
      obtain rfl := Option.some.inj H
      go_enter Try.func72, Try.ntmps72
      go_wp2
      go_ret
      exact ⟨by first | rfl | (simp; done) | (simp [*]; done), by repeat (first | exact Drawn0.refl _ | apply Drawn0.step)⟩
  · rw [if_neg c3] at H
    have c3b0 : decide (0 ≤ a0) = false := decide_eq_false c3
    clear c3
    obtain rfl := Option.some.inj H
    go_enter Try.func72, Try.ntmps72
    go_wp2
    go_ret
    exact ⟨by first | rfl | (simp; done) | (simp [*]; done), by repeat (first | exact Drawn0.refl _ | apply Drawn0.step)⟩

/-! ### flyleafref13_Round: function 74 -/
def flyleafref13_Round.f (a0 : Int) : Option (Int) := if a0 < 0 then (some 0) else (if a0 > 1099511627776 then (some 1099511627776) else (some (wrap64 ((wrap64 (Int.tdiv (wrap64 (a0 + 63)) 64)) * 64))))
set_option maxHeartbeats 8000000 in
set_option maxRecDepth 100000 in
theorem flyleafref13_Round.calls (a0 : Int) (r : Int) (w : World) (h : flyleafref13_Round.f a0 = some r) :
    Calls Try.prog 74 #[.int .i64 a0] w fun e w' => e = .returned (.int .i64 r) ∧ Drawn0 w w' := by
  have H : (if a0 < 0 then (some 0) else (if a0 > 1099511627776 then (some 1099511627776) else (some (wrap64 ((wrap64 (Int.tdiv (wrap64 (a0 + 63)) 64)) * 64))))) = some r := h
  clear h
  by_cases c2 : a0 < 0
  · rw [if_pos c2] at H
    have c2b0 : decide (a0 < 0) = true := decide_eq_true c2
    clear c2
    obtain rfl := Option.some.inj H
    go_enter Try.func74, Try.ntmps74
    go_wp2
    go_ret
    exact ⟨by first | rfl | (simp; done) | (simp [*]; done), by repeat (first | exact Drawn0.refl _ | apply Drawn0.step)⟩
  · rw [if_neg c2] at H
    have c2b0 : decide (a0 < 0) = false := decide_eq_false c2
    clear c2
    by_cases c3 : a0 > 1099511627776
    · rw [if_pos c3] at H
      have c3b0 : decide (1099511627776 < a0) = true := decide_eq_true c3
      clear c3
      obtain rfl := Option.some.inj H
      go_enter Try.func74, Try.ntmps74
      go_wp2
      go_ret
      exact ⟨by first | rfl | (simp; done) | (simp [*]; done), by repeat (first | exact Drawn0.refl _ | apply Drawn0.step)⟩
    · rw [if_neg c3] at H
      have c3b0 : decide (1099511627776 < a0) = false := decide_eq_false c3
      clear c3
      obtain rfl := Option.some.inj H
      go_enter Try.func74, Try.ntmps74
      go_wp2
      go_ret
      exact ⟨by first | rfl | (simp; done) | (simp [*]; done), by repeat (first | exact Drawn0.refl _ | apply Drawn0.step)⟩

/-! ### flyleafref13_Meet: function 110 -/
def flyleafref13_Meet.j0 : Nat → Int → Int → Int → Int → Bool → Option (Bool)
  | 0, _, _, _, _, _ => none
  | k + 1, x0, x1, x2, x3, x14 => if x14 = true then (some false) else (if x0 ≤ x2 then (some (decide ((IntKind.u64.wrap ((IntKind.u64.wrap (x2)) - (IntKind.u64.wrap (x0)))) < (IntKind.u64.wrap (x1))))) else (some (decide ((IntKind.u64.wrap ((IntKind.u64.wrap (x0)) - (IntKind.u64.wrap (x2)))) < (IntKind.u64.wrap (x3))))))
def flyleafref13_Meet.f (k : Nat) (a0 : Int) (a1 : Int) (a2 : Int) (a3 : Int) : Option (Bool) := if a1 ≤ 0 then (flyleafref13_Meet.j0 k a0 a1 a2 a3 true) else (flyleafref13_Meet.j0 k a0 a1 a2 a3 (decide (a3 ≤ 0)))
theorem flyleafref13_Meet.mono_l : ∀ k, (∀ y0 y1 y2 y3 y4, LeO (flyleafref13_Meet.j0 k y0 y1 y2 y3 y4) (flyleafref13_Meet.j0 (k + 1) y0 y1 y2 y3 y4))
  | 0 => fun _ _ _ _ _ r h => by simp [flyleafref13_Meet.j0] at h
  | k + 1 => by
    have ih0 := flyleafref13_Meet.mono_l k
    · intro y0 y1 y2 y3 y4
      unfold flyleafref13_Meet.j0
      repeat' first
      | (with_reducible exact ih0 _ _ _ _ _)
      | (with_reducible exact LeO.refl _)
      | (with_reducible exact LeO.none _)
      | (with_reducible refine LeO.ite ?_ ?_)
      | (with_reducible refine LeO.bind ?_ (fun _ => ?_))
      | exact ih0 _ _ _ _ _
      | exact LeO.none _
      | refine LeO.ite ?_ ?_
      | refine LeO.bind ?_ (fun _ => ?_)
theorem flyleafref13_Meet.mono : ∀ a0 a1 a2 a3 k, LeO (flyleafref13_Meet.f k a0 a1 a2 a3) (flyleafref13_Meet.f (k + 1) a0 a1 a2 a3) := by
  intro a0 a1 a2 a3 k
  have ih0 := flyleafref13_Meet.mono_l k
  unfold flyleafref13_Meet.f
  repeat' first
      | (with_reducible exact ih0 _ _ _ _ _)
      | (with_reducible exact LeO.refl _)
      | (with_reducible exact LeO.none _)
      | (with_reducible refine LeO.ite ?_ ?_)
      | (with_reducible refine LeO.bind ?_ (fun _ => ?_))
      | exact ih0 _ _ _ _ _
      | exact LeO.none _
      | refine LeO.ite ?_ ?_
      | refine LeO.bind ?_ (fun _ => ?_)
set_option maxHeartbeats 8000000 in
set_option maxRecDepth 100000 in
theorem flyleafref13_Meet.calls (k : Nat) (a0 : Int) (a1 : Int) (a2 : Int) (a3 : Int) (r : Bool) (w : World) (h : flyleafref13_Meet.f k a0 a1 a2 a3 = some r) :
    Calls Try.prog 110 #[.int .i64 a0, .int .i64 a1, .int .i64 a2, .int .i64 a3] w fun e w' => e = .returned (.bool r) ∧ Drawn0 w w' := by
  have H : (if a1 ≤ 0 then (flyleafref13_Meet.j0 k a0 a1 a2 a3 true) else (flyleafref13_Meet.j0 k a0 a1 a2 a3 (decide (a3 ≤ 0)))) = some r := h
  clear h
  have HC5 := Aside0.mk H
  clear H
  go_enter Try.func110, Try.ntmps110
  go_upto_region 1 with (fail)
  go_cut [14] (fun v14 wc => ∃ (kq : Nat) (x14_4 : Bool), v14 = .bool x14_4 ∧ Aside0 (flyleafref13_Meet.j0 kq a0 a1 a2 a3 x14_4 = some r) ∧ Aside0 (kq ≤ k) ∧ Drawn0 w wc)
  case first =>
    have H := HC5.out
    clear HC5
    by_cases c6 : a1 ≤ 0
    · rw [if_pos c6] at H
      have c6b0 : decide (a1 ≤ 0) = true := decide_eq_true c6
      clear c6
      (first | rw [c6b0] | (simp only [i64_w, i32_w]; rw [c6b0]) | skip)
      have H' := Aside0.mk H
      clear H
      go_wp2
      go_meet
      case rel => exact ⟨_, (true), (by first | rfl | (simp; done) | (simp [*]; done)), H', ⟨by first | omega | exact Nat.le_refl _⟩, by repeat (first | exact Drawn0.refl _ | apply Drawn0.step)⟩
    · rw [if_neg c6] at H
      have c6b0 : decide (a1 ≤ 0) = false := decide_eq_false c6
      clear c6
      (first | rw [c6b0] | (simp only [i64_w, i32_w]; rw [c6b0]) | skip)
      have H' := Aside0.mk H
      clear H
      go_wp2
      go_meet
      case rel => exact ⟨_, (decide (a3 ≤ 0)), (by first | rfl | (simp; done) | (simp [*]; done)), H', ⟨by first | omega | exact Nat.le_refl _⟩, by repeat (first | exact Drawn0.refl _ | apply Drawn0.step)⟩
  case rest =>
    clear HC5
    try clear c1
    try clear p2
    try clear c6
    try clear c6b0
    obtain ⟨kq, x14_4, rfl, HA, HJ4, ⟨mc4, rfl⟩⟩ := hcut
    cases kq with
    | zero => exact absurd HA.out (by simp [flyleafref13_Meet.j0])
    | succ kj4 =>
      have H := HA.out
      clear HA
      simp only [flyleafref13_Meet.j0] at H
      by_cases c7 : x14_4 = true
      · subst c7
        have H1 : (some false) = some r := by rw [if_pos rfl] at H; exact H
        clear H
        have H := H1
        clear H1
        obtain rfl := Option.some.inj H
        go_wp2
        go_ret
        exact ⟨by first | rfl | (simp; done) | (simp [*]; done), by repeat (first | exact Drawn0.refl _ | apply Drawn0.step)⟩
      · replace c7 := Bool.eq_false_iff.mpr c7
        subst c7
        have H1 : (if a0 ≤ a2 then (some (decide ((IntKind.u64.wrap ((IntKind.u64.wrap (a2)) - (IntKind.u64.wrap (a0)))) < (IntKind.u64.wrap (a1))))) else (some (decide ((IntKind.u64.wrap ((IntKind.u64.wrap (a0)) - (IntKind.u64.wrap (a2)))) < (IntKind.u64.wrap (a3)))))) = some r := by rw [if_neg (show ¬ (false = true) by decide)] at H; exact H
        clear H
        have H := H1
        clear H1
        by_cases c8 : a0 ≤ a2
        · rw [if_pos c8] at H
          have c8b0 : decide (a0 ≤ a2) = true := decide_eq_true c8
          clear c8
          obtain rfl := Option.some.inj H
          go_wp2
          go_ret
          exact ⟨by first | rfl | (simp; done) | (simp [*]; done), by repeat (first | exact Drawn0.refl _ | apply Drawn0.step)⟩
        · rw [if_neg c8] at H
          have c8b0 : decide (a0 ≤ a2) = false := decide_eq_false c8
          clear c8
          obtain rfl := Option.some.inj H
          go_wp2
          go_ret
          exact ⟨by first | rfl | (simp; done) | (simp [*]; done), by repeat (first | exact Drawn0.refl _ | apply Drawn0.step)⟩

/-! ### flyleafref13_fits: function 73 -/
mutual
def flyleafref13_fits.j0 : Nat → List (S34) → List Int → Int → Int → Bool → Option (Bool)
  | 0, _, _, _, _, _ => none
  | k + 1, x0, x1, x4, x5, x29 => if x29 = true then (some false) else (flyleafref13_fits.l0 k x0 x1 x4 x5 0)
def flyleafref13_fits.l0 : Nat → List (S34) → List Int → Int → Int → Int → Option (Bool)
  | 0, _, _, _, _, _ => none
  | k + 1, x0, x1, x4, x5, x13 => if x13 < (x1.length : Int) then (flyleafref13_fits.j2 k x0 x1 x4 x5 x13 (decide (x13 < (x0.length : Int)))) else (flyleafref13_fits.j2 k x0 x1 x4 x5 x13 false)
def flyleafref13_fits.j2 : Nat → List (S34) → List Int → Int → Int → Int → Bool → Option (Bool)
  | 0, _, _, _, _, _, _ => none
  | k + 1, x0, x1, x4, x5, x13, x39 => if x39 = true then (if 0 ≤ x13 then (if x13 < (x1.length : Int) then (if x13 < (x0.length : Int) then ((flyleafref13_Round.f ((rd_T34 x0 x13).f0)).bind fun t142 => ((flyleafref13_Meet.f k (rd x1 x13) t142 x4 x5).bind fun t143 => (if t143 = true then (some false) else (flyleafref13_fits.l0 k x0 x1 x4 x5 (wrap64 (x13 + 1)))))) else (none)) else (none)) else (none)) else (some true)
end
def flyleafref13_fits.f (k : Nat) (l0 : List (S34)) (l1 : List Int) (a2 : Int) (a3 : Int) (a4 : Int) (a5 : Int) : Option (Bool) := if a4 < a2 then (flyleafref13_fits.j0 k l0 l1 a4 a5 true) else (if a4 > a3 then (flyleafref13_fits.j0 k l0 l1 a4 a5 true) else (flyleafref13_fits.j0 k l0 l1 a4 a5 (decide ((wrap64 (a3 - a4)) < a5))))
theorem flyleafref13_fits.mono_l : ∀ k, (∀ y0 y1 y2 y3 y4, LeO (flyleafref13_fits.j0 k y0 y1 y2 y3 y4) (flyleafref13_fits.j0 (k + 1) y0 y1 y2 y3 y4)) ∧ (∀ y0 y1 y2 y3 y4, LeO (flyleafref13_fits.l0 k y0 y1 y2 y3 y4) (flyleafref13_fits.l0 (k + 1) y0 y1 y2 y3 y4)) ∧ (∀ y0 y1 y2 y3 y4 y5, LeO (flyleafref13_fits.j2 k y0 y1 y2 y3 y4 y5) (flyleafref13_fits.j2 (k + 1) y0 y1 y2 y3 y4 y5))
  | 0 => ⟨fun _ _ _ _ _ r h => by simp [flyleafref13_fits.j0] at h, fun _ _ _ _ _ r h => by simp [flyleafref13_fits.l0] at h, fun _ _ _ _ _ _ r h => by simp [flyleafref13_fits.j2] at h⟩
  | k + 1 => by
    obtain ⟨ih0, ih1, ih2⟩ := flyleafref13_fits.mono_l k
    refine ⟨?_, ?_, ?_⟩
    · intro y0 y1 y2 y3 y4
      unfold flyleafref13_fits.j0
      repeat' first
      | (with_reducible exact ih0 _ _ _ _ _)
      | (with_reducible exact ih1 _ _ _ _ _)
      | (with_reducible exact ih2 _ _ _ _ _ _)
      | (with_reducible exact flyleafref13_Meet.mono _ _ _ _ _)
      | (with_reducible exact LeO.refl _)
      | (with_reducible exact LeO.none _)
      | (with_reducible refine LeO.ite ?_ ?_)
      | (with_reducible refine LeO.bind ?_ (fun _ => ?_))
      | exact ih0 _ _ _ _ _
      | exact ih1 _ _ _ _ _
      | exact ih2 _ _ _ _ _ _
      | exact flyleafref13_Meet.mono _ _ _ _ _
      | exact LeO.none _
      | refine LeO.ite ?_ ?_
      | refine LeO.bind ?_ (fun _ => ?_)
    · intro y0 y1 y2 y3 y4
      unfold flyleafref13_fits.l0
      repeat' first
      | (with_reducible exact ih0 _ _ _ _ _)
      | (with_reducible exact ih1 _ _ _ _ _)
      | (with_reducible exact ih2 _ _ _ _ _ _)
      | (with_reducible exact flyleafref13_Meet.mono _ _ _ _ _)
      | (with_reducible exact LeO.refl _)
      | (with_reducible exact LeO.none _)
      | (with_reducible refine LeO.ite ?_ ?_)
      | (with_reducible refine LeO.bind ?_ (fun _ => ?_))
      | exact ih0 _ _ _ _ _
      | exact ih1 _ _ _ _ _
      | exact ih2 _ _ _ _ _ _
      | exact flyleafref13_Meet.mono _ _ _ _ _
      | exact LeO.none _
      | refine LeO.ite ?_ ?_
      | refine LeO.bind ?_ (fun _ => ?_)
    · intro y0 y1 y2 y3 y4 y5
      unfold flyleafref13_fits.j2
      repeat' first
      | (with_reducible exact ih0 _ _ _ _ _)
      | (with_reducible exact ih1 _ _ _ _ _)
      | (with_reducible exact ih2 _ _ _ _ _ _)
      | (with_reducible exact flyleafref13_Meet.mono _ _ _ _ _)
      | (with_reducible exact LeO.refl _)
      | (with_reducible exact LeO.none _)
      | (with_reducible refine LeO.ite ?_ ?_)
      | (with_reducible refine LeO.bind ?_ (fun _ => ?_))
      | exact ih0 _ _ _ _ _
      | exact ih1 _ _ _ _ _
      | exact ih2 _ _ _ _ _ _
      | exact flyleafref13_Meet.mono _ _ _ _ _
      | exact LeO.none _
      | refine LeO.ite ?_ ?_
      | refine LeO.bind ?_ (fun _ => ?_)
theorem flyleafref13_fits.mono : ∀ a0 a1 a2 a3 a4 a5 k, LeO (flyleafref13_fits.f k a0 a1 a2 a3 a4 a5) (flyleafref13_fits.f (k + 1) a0 a1 a2 a3 a4 a5) := by
  intro a0 a1 a2 a3 a4 a5 k
  obtain ⟨ih0, ih1, ih2⟩ := flyleafref13_fits.mono_l k
  unfold flyleafref13_fits.f
  repeat' first
      | (with_reducible exact ih0 _ _ _ _ _)
      | (with_reducible exact ih1 _ _ _ _ _)
      | (with_reducible exact ih2 _ _ _ _ _ _)
      | (with_reducible exact flyleafref13_Meet.mono _ _ _ _ _)
      | (with_reducible exact LeO.refl _)
      | (with_reducible exact LeO.none _)
      | (with_reducible refine LeO.ite ?_ ?_)
      | (with_reducible refine LeO.bind ?_ (fun _ => ?_))
      | exact ih0 _ _ _ _ _
      | exact ih1 _ _ _ _ _
      | exact ih2 _ _ _ _ _ _
      | exact flyleafref13_Meet.mono _ _ _ _ _
      | exact LeO.none _
      | refine LeO.ite ?_ ?_
      | refine LeO.bind ?_ (fun _ => ?_)
set_option maxHeartbeats 8000000 in
set_option maxRecDepth 100000 in
theorem flyleafref13_fits.calls (k : Nat) (A0 : Option Addr) (c0 : Nat) (l0 : List (S34)) (A1 : Option Addr) (c1 : Nat) (l1 : List Int) (a2 : Int) (a3 : Int) (a4 : Int) (a5 : Int) (r : Bool) (w : World) (hr0 : Kd.C k34 w A0 l0.length l0) (hc0 : l0.length ≤ c0) (hr1 : Kd.C (Kd.int .i64) w A1 l1.length l1) (hc1 : l1.length ≤ c1) (h : flyleafref13_fits.f k l0 l1 a2 a3 a4 a5 = some r) :
    Calls Try.prog 73 #[.slice A0 l0.length c0, .slice A1 l1.length c1, .int .i64 a2, .int .i64 a3, .int .i64 a4, .int .i64 a5] w fun e w' => e = .returned (.bool r) ∧ Drawn0 w w' := by
  have HR0 := Aside0.mk hr0
  have HC0 := Aside0.mk hc0
  clear hr0 hc0
  have HR1 := Aside0.mk hr1
  have HC1 := Aside0.mk hc1
  clear hr1 hc1
  have H : (if a4 < a2 then (flyleafref13_fits.j0 k l0 l1 a4 a5 true) else (if a4 > a3 then (flyleafref13_fits.j0 k l0 l1 a4 a5 true) else (flyleafref13_fits.j0 k l0 l1 a4 a5 (decide ((wrap64 (a3 - a4)) < a5))))) = some r := h
  clear h
  have HC7 := Aside0.mk H
  clear H
  go_enter Try.func73, Try.ntmps73
  go_upto_region 1 with (fail)
  repeat (go_quiet (fail); go_upto_region 1 with (fail))
  go_cut [29] (fun v29 wc => ∃ (kq : Nat) (x29_6 : Bool), v29 = .bool x29_6 ∧ Aside0 (flyleafref13_fits.j0 kq l0 l1 a4 a5 x29_6 = some r) ∧ Aside0 (kq ≤ k) ∧ Drawn0 w wc)
  case first =>
    have H := HC7.out
    clear HC7
    by_cases c8 : a4 < a2
    · rw [if_pos c8] at H
      have c8b0 : decide (a4 < a2) = true := decide_eq_true c8
      clear c8
      (first | rw [c8b0] | (simp only [i64_w, i32_w]; rw [c8b0]) | skip)
      have H' := Aside0.mk H
      clear H
      go_wp2
      repeat (go_quiet (fail); try go_wp2)
      go_meet
      case rel => exact ⟨_, (true), (by first | rfl | (simp; done) | (simp [*]; done)), H', ⟨by first | omega | exact Nat.le_refl _⟩, by repeat (first | exact Drawn0.refl _ | apply Drawn0.step)⟩
    · rw [if_neg c8] at H
      have c8b0 : decide (a4 < a2) = false := decide_eq_false c8
      clear c8
      (first | rw [c8b0] | (simp only [i64_w, i32_w]; rw [c8b0]) | skip)
      by_cases c9 : a4 > a3
      · rw [if_pos c9] at H
        have c9b0 : decide (a3 < a4) = true := decide_eq_true c9
        clear c9
        have H' := Aside0.mk H
        clear H
        go_wp2
        repeat (go_quiet (fail); try go_wp2)
        go_meet
        case rel => exact ⟨_, (true), (by first | rfl | (simp; done) | (simp [*]; done)), H', ⟨by first | omega | exact Nat.le_refl _⟩, by repeat (first | exact Drawn0.refl _ | apply Drawn0.step)⟩
      · rw [if_neg c9] at H
        have c9b0 : decide (a3 < a4) = false := decide_eq_false c9
        clear c9
        have H' := Aside0.mk H
        clear H
        go_wp2
        repeat (go_quiet (fail); try go_wp2)
        go_meet
        case rel => exact ⟨_, (decide ((wrap64 (a3 - a4)) < a5)), (by first | rfl | (simp; done) | (simp [*]; done)), H', ⟨by first | omega | exact Nat.le_refl _⟩, by repeat (first | exact Drawn0.refl _ | apply Drawn0.step)⟩
  case rest =>
    clear HC7
    try clear c1
    try clear p2
    try clear p6
    try clear c7
    try clear c8
    try clear c8b0
    try clear c9
    try clear c9b0
    obtain ⟨kq, x29_6, rfl, HA, HJ6, ⟨mc6, rfl⟩⟩ := hcut
    cases kq with
    | zero => exact absurd HA.out (by simp [flyleafref13_fits.j0])
    | succ kj6 =>
      have H := HA.out
      clear HA
      simp only [flyleafref13_fits.j0] at H
      by_cases c10 : x29_6 = true
      · subst c10
        have H1 : (some false) = some r := by rw [if_pos rfl] at H; exact H
        clear H
        have H := H1
        clear H1
        obtain rfl := Option.some.inj H
        go_wp2
        repeat (go_quiet (fail); try go_wp2)
        go_ret
        exact ⟨by first | rfl | (simp; done) | (simp [*]; done), by repeat (first | exact Drawn0.refl _ | apply Drawn0.step)⟩
      · replace c10 := Bool.eq_false_iff.mpr c10
        subst c10
        have H1 : (flyleafref13_fits.l0 kj6 l0 l1 a4 a5 0) = some r := by rw [if_neg (show ¬ (false = true) by decide)] at H; exact H
        clear H
        have H := H1
        clear H1
        have H' := Aside0.mk H
        clear H
        go_wp2
        repeat (go_quiet (fail); try go_wp2)
        go_loopg [13] kj6 (fun kq v13 w' => ∃ (x13_2 : Int), v13 = .int .i64 x13_2 ∧ Aside0 (flyleafref13_fits.l0 kq l0 l1 a4 a5 x13_2 = some r) ∧ Aside0 (kq ≤ kj6) ∧ Drawn0 w w')
        case atStart => exact ⟨(0), (by first | rfl | (simp; done) | (simp [*]; done)), H', ⟨Nat.le_refl _⟩, by repeat (first | exact Drawn0.refl _ | apply Drawn0.step)⟩
        case round =>
          clear H'
          try clear c1
          try clear p2
          try clear c6
          try clear p6
          try clear c7
          try clear c8
          try clear c8b0
          try clear c9
          try clear c9b0
          try clear c10
          try clear p2
          try clear p6
          obtain ⟨x13_2, rfl, HA, HK2, ⟨m2, rfl⟩⟩ := hrel
          cases gk with
          | zero => exact absurd HA.out (by simp [flyleafref13_fits.l0])
          | succ k2 =>
            have H := HA.out
            clear HA
            simp only [flyleafref13_fits.l0] at H
            have HC11 := Aside0.mk H
            clear H
            go_upto_region 4 with (fail)
            repeat (go_quiet (fail); go_upto_region 4 with (fail))
            go_cut [39] (fun v39 wc => ∃ (kq : Nat) (x39_10 : Bool), v39 = .bool x39_10 ∧ Aside0 (flyleafref13_fits.j2 kq l0 l1 a4 a5 x13_2 x39_10 = some r) ∧ Aside0 (kq ≤ k2) ∧ Drawn0 w wc)
            case first =>
              have H := HC11.out
              clear HC11
              by_cases c12 : x13_2 < (l1.length : Int)
              · rw [if_pos c12] at H
                have c12b0 : decide (x13_2 < (l1.length : Int)) = true := decide_eq_true c12
                clear c12
                (first | rw [c12b0] | (simp only [i64_w, i32_w]; rw [c12b0]) | skip)
                have H' := Aside0.mk H
                clear H
                go_wp2
                repeat (go_quiet (fail); try go_wp2)
                go_meet
                case rel => exact ⟨_, (decide (x13_2 < (l0.length : Int))), (by first | rfl | (simp; done) | (simp [*]; done)), H', ⟨by have := HJ6.out; have := HK2.out; first | omega | exact Nat.le_refl _⟩, by repeat (first | exact Drawn0.refl _ | apply Drawn0.step)⟩
              · rw [if_neg c12] at H
                have c12b0 : decide (x13_2 < (l1.length : Int)) = false := decide_eq_false c12
                clear c12
                (first | rw [c12b0] | (simp only [i64_w, i32_w]; rw [c12b0]) | skip)
                have H' := Aside0.mk H
                clear H
                go_wp2
                repeat (go_quiet (fail); try go_wp2)
                go_meet
                case rel => exact ⟨_, (false), (by first | rfl | (simp; done) | (simp [*]; done)), H', ⟨by have := HJ6.out; have := HK2.out; first | omega | exact Nat.le_refl _⟩, by repeat (first | exact Drawn0.refl _ | apply Drawn0.step)⟩
            case rest =>
              clear HC11
              try clear c1
              try clear p2
              try clear c6
              try clear p6
              try clear c7
              try clear c8
              try clear c8b0
              try clear c9
              try clear c9b0
              try clear c10
              try clear c12
              try clear c12b0
              try clear p2
              try clear p6
              obtain ⟨kq, x39_10, rfl, HA, HJ10, ⟨mc10, rfl⟩⟩ := hcut
              cases kq with
              | zero => exact absurd HA.out (by simp [flyleafref13_fits.j2])
              | succ kj10 =>
                have H := HA.out
                clear HA
                simp only [flyleafref13_fits.j2] at H
                by_cases c13 : x39_10 = true
                · subst c13
                  have H1 : (if 0 ≤ x13_2 then (if x13_2 < (l1.length : Int) then (if x13_2 < (l0.length : Int) then ((flyleafref13_Round.f ((rd_T34 l0 x13_2).f0)).bind fun t142 => ((flyleafref13_Meet.f kj10 (rd l1 x13_2) t142 a4 a5).bind fun t143 => (if t143 = true then (some false) else (flyleafref13_fits.l0 kj10 l0 l1 a4 a5 (wrap64 (x13_2 + 1)))))) else (none)) else (none)) else (none)) = some r := by rw [if_pos rfl] at H; exact H
                  clear H
                  have H := H1
                  clear H1
                  by_cases c14 : 0 ≤ x13_2
                  · rw [if_pos c14] at H
                    have c14b0 : decide (0 ≤ x13_2) = true := decide_eq_true c14
                    clear c14
                    by_cases c15 : x13_2 < (l1.length : Int)
                    · rw [if_pos c15] at H
                      have c15b0 : decide (x13_2 < (l1.length : Int)) = true := decide_eq_true c15
                      clear c15
                      by_cases c16 : x13_2 < (l0.length : Int)
                      · rw [if_pos c16] at H
                        have c16b0 : decide (x13_2 < (l0.length : Int)) = true := decide_eq_true c16
                        clear c16
                        replace H := Option.bind_eq_some_iff.mp H
                        obtain ⟨t142, A170, H⟩ := H
                        replace H : ((flyleafref13_Meet.f kj10 (rd l1 x13_2) t142 a4 a5).bind fun t143 => (if t143 = true then (some false) else (flyleafref13_fits.l0 kj10 l0 l1 a4 a5 (wrap64 (x13_2 + 1))))) = some r := H
                        have A17 := Aside0.mk A170
                        clear A170
                        replace H := Option.bind_eq_some_iff.mp H
                        obtain ⟨t143, A180, H⟩ := H
                        replace H : (if t143 = true then (some false) else (flyleafref13_fits.l0 kj10 l0 l1 a4 a5 (wrap64 (x13_2 + 1)))) = some r := H
                        have A18 := Aside0.mk A180
                        clear A180
                        by_cases c19 : t143 = true
                        · subst c19
                          have H1 : (some false) = some r := by rw [if_pos rfl] at H; exact H
                          clear H
                          have H := H1
                          clear H1
                          obtain rfl := Option.some.inj H
                          have p140 : 0 ≤ (x13_2 : Int) := of_decide_eq_true (by first | (with_reducible assumption) | assumption)
                          have q140 : x13_2 < (l1.length : Int) := of_decide_eq_true (by first | (with_reducible assumption) | assumption)
                          obtain ⟨ad140, e140, hx140_0⟩ := Kd.at_int HR1.out x13_2 p140 q140
                          cases e140
                          replace p140 := eq_true p140
                          replace q140 := eq_true q140
                          have p141 : 0 ≤ (x13_2 : Int) := of_decide_eq_true (by first | (with_reducible assumption) | assumption)
                          have q141 : x13_2 < (l0.length : Int) := of_decide_eq_true (by first | (with_reducible assumption) | assumption)
                          obtain ⟨ad141, e141, hx141_0, hx141_1⟩ := at_T34 HR0.out x13_2 p141 q141
                          cases e141
                          replace p141 := eq_true p141
                          replace q141 := eq_true q141
                          go_wp2_with (first | (go_at_call 74; (with_reducible refine (flyleafref13_Round.calls ((rd_T34 l0 x13_2).f0) t142 _ A17.out).mono ?_); rintro e w' ⟨rfl, ⟨nd, rfl⟩⟩; (try first | exact ⟨rfl, _, World.drewN_drewN _ _ _⟩ | exact ⟨rfl, _, Eq.trans (World.drewN_drewN _ _ _) (congrArg (World.drewN _) (Nat.add_assoc _ _ _))⟩)) | (go_at_call 110; (with_reducible refine (flyleafref13_Meet.calls kj10 (rd l1 x13_2) t142 a4 a5 true _ A18.out).mono ?_); rintro e w' ⟨rfl, ⟨nd, rfl⟩⟩; (try first | exact ⟨rfl, _, World.drewN_drewN _ _ _⟩ | exact ⟨rfl, _, Eq.trans (World.drewN_drewN _ _ _) (congrArg (World.drewN _) (Nat.add_assoc _ _ _))⟩)))
                          repeat (go_quiet (first | (go_at_call 74; (with_reducible refine (flyleafref13_Round.calls ((rd_T34 l0 x13_2).f0) t142 _ A17.out).mono ?_); rintro e w' ⟨rfl, ⟨nd, rfl⟩⟩; (try first | exact ⟨rfl, _, World.drewN_drewN _ _ _⟩ | exact ⟨rfl, _, Eq.trans (World.drewN_drewN _ _ _) (congrArg (World.drewN _) (Nat.add_assoc _ _ _))⟩)) | (go_at_call 110; (with_reducible refine (flyleafref13_Meet.calls kj10 (rd l1 x13_2) t142 a4 a5 true _ A18.out).mono ?_); rintro e w' ⟨rfl, ⟨nd, rfl⟩⟩; (try first | exact ⟨rfl, _, World.drewN_drewN _ _ _⟩ | exact ⟨rfl, _, Eq.trans (World.drewN_drewN _ _ _) (congrArg (World.drewN _) (Nat.add_assoc _ _ _))⟩))); try go_wp2_with (first | (go_at_call 74; (with_reducible refine (flyleafref13_Round.calls ((rd_T34 l0 x13_2).f0) t142 _ A17.out).mono ?_); rintro e w' ⟨rfl, ⟨nd, rfl⟩⟩; (try first | exact ⟨rfl, _, World.drewN_drewN _ _ _⟩ | exact ⟨rfl, _, Eq.trans (World.drewN_drewN _ _ _) (congrArg (World.drewN _) (Nat.add_assoc _ _ _))⟩)) | (go_at_call 110; (with_reducible refine (flyleafref13_Meet.calls kj10 (rd l1 x13_2) t142 a4 a5 true _ A18.out).mono ?_); rintro e w' ⟨rfl, ⟨nd, rfl⟩⟩; (try first | exact ⟨rfl, _, World.drewN_drewN _ _ _⟩ | exact ⟨rfl, _, Eq.trans (World.drewN_drewN _ _ _) (congrArg (World.drewN _) (Nat.add_assoc _ _ _))⟩))))
                          go_ret
                          exact ⟨by first | rfl | (simp; done) | (simp [*]; done), by repeat (first | exact Drawn0.refl _ | apply Drawn0.step)⟩
                        · replace c19 := Bool.eq_false_iff.mpr c19
                          subst c19
                          have H1 : (flyleafref13_fits.l0 kj10 l0 l1 a4 a5 (wrap64 (x13_2 + 1))) = some r := by rw [if_neg (show ¬ (false = true) by decide)] at H; exact H
                          clear H
                          have H := H1
                          clear H1
                          have H' := Aside0.mk H
                          clear H
                          have p140 : 0 ≤ (x13_2 : Int) := of_decide_eq_true (by first | (with_reducible assumption) | assumption)
                          have q140 : x13_2 < (l1.length : Int) := of_decide_eq_true (by first | (with_reducible assumption) | assumption)
                          obtain ⟨ad140, e140, hx140_0⟩ := Kd.at_int HR1.out x13_2 p140 q140
                          cases e140
                          replace p140 := eq_true p140
                          replace q140 := eq_true q140
                          have p141 : 0 ≤ (x13_2 : Int) := of_decide_eq_true (by first | (with_reducible assumption) | assumption)
                          have q141 : x13_2 < (l0.length : Int) := of_decide_eq_true (by first | (with_reducible assumption) | assumption)
                          obtain ⟨ad141, e141, hx141_0, hx141_1⟩ := at_T34 HR0.out x13_2 p141 q141
                          cases e141
                          replace p141 := eq_true p141
                          replace q141 := eq_true q141
                          go_wp2_with (first | (go_at_call 74; (with_reducible refine (flyleafref13_Round.calls ((rd_T34 l0 x13_2).f0) t142 _ A17.out).mono ?_); rintro e w' ⟨rfl, ⟨nd, rfl⟩⟩; (try first | exact ⟨rfl, _, World.drewN_drewN _ _ _⟩ | exact ⟨rfl, _, Eq.trans (World.drewN_drewN _ _ _) (congrArg (World.drewN _) (Nat.add_assoc _ _ _))⟩)) | (go_at_call 110; (with_reducible refine (flyleafref13_Meet.calls kj10 (rd l1 x13_2) t142 a4 a5 false _ A18.out).mono ?_); rintro e w' ⟨rfl, ⟨nd, rfl⟩⟩; (try first | exact ⟨rfl, _, World.drewN_drewN _ _ _⟩ | exact ⟨rfl, _, Eq.trans (World.drewN_drewN _ _ _) (congrArg (World.drewN _) (Nat.add_assoc _ _ _))⟩)))
                          repeat (go_quiet (first | (go_at_call 74; (with_reducible refine (flyleafref13_Round.calls ((rd_T34 l0 x13_2).f0) t142 _ A17.out).mono ?_); rintro e w' ⟨rfl, ⟨nd, rfl⟩⟩; (try first | exact ⟨rfl, _, World.drewN_drewN _ _ _⟩ | exact ⟨rfl, _, Eq.trans (World.drewN_drewN _ _ _) (congrArg (World.drewN _) (Nat.add_assoc _ _ _))⟩)) | (go_at_call 110; (with_reducible refine (flyleafref13_Meet.calls kj10 (rd l1 x13_2) t142 a4 a5 false _ A18.out).mono ?_); rintro e w' ⟨rfl, ⟨nd, rfl⟩⟩; (try first | exact ⟨rfl, _, World.drewN_drewN _ _ _⟩ | exact ⟨rfl, _, Eq.trans (World.drewN_drewN _ _ _) (congrArg (World.drewN _) (Nat.add_assoc _ _ _))⟩))); try go_wp2_with (first | (go_at_call 74; (with_reducible refine (flyleafref13_Round.calls ((rd_T34 l0 x13_2).f0) t142 _ A17.out).mono ?_); rintro e w' ⟨rfl, ⟨nd, rfl⟩⟩; (try first | exact ⟨rfl, _, World.drewN_drewN _ _ _⟩ | exact ⟨rfl, _, Eq.trans (World.drewN_drewN _ _ _) (congrArg (World.drewN _) (Nat.add_assoc _ _ _))⟩)) | (go_at_call 110; (with_reducible refine (flyleafref13_Meet.calls kj10 (rd l1 x13_2) t142 a4 a5 false _ A18.out).mono ?_); rintro e w' ⟨rfl, ⟨nd, rfl⟩⟩; (try first | exact ⟨rfl, _, World.drewN_drewN _ _ _⟩ | exact ⟨rfl, _, Eq.trans (World.drewN_drewN _ _ _) (congrArg (World.drewN _) (Nat.add_assoc _ _ _))⟩))))
                          go_roundg kj10
                          case measure => have := HJ6.out; have := HK2.out; have := HJ10.out; omega
                          case rel => exact ⟨(wrap64 (x13_2 + 1)), (by first | rfl | (simp; done) | (simp [*]; done)), H', ⟨by have := HJ6.out; have := HK2.out; have := HJ10.out; omega⟩, by repeat (first | exact Drawn0.refl _ | apply Drawn0.step)⟩
                      · rw [if_neg c16] at H
                        exact absurd H (by simp)
                    · rw [if_neg c15] at H
                      exact absurd H (by simp)
                  · rw [if_neg c14] at H
                    exact absurd H (by simp)
                · replace c13 := Bool.eq_false_iff.mpr c13
                  subst c13
                  have H1 : (some true) = some r := by rw [if_neg (show ¬ (false = true) by decide)] at H; exact H
                  clear H
                  have H := H1
                  clear H1
                  obtain rfl := Option.some.inj H
                  go_wp2
                  repeat (go_quiet (fail); try go_wp2)
                  go_ret
                  exact ⟨by first | rfl | (simp; done) | (simp [*]; done), by repeat (first | exact Drawn0.refl _ | apply Drawn0.step)⟩

end Go.Proofs.Ytafmeagfockdfaa.Pl
