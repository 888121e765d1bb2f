/-
  place.Free: called with two slices that can be read, it returns what freeT tells.
-/
import Derived.Test.YtafmeagfockdfaaPlEnds
import Derived.WalkMore
import Derived.Laws.EntriesVeiled
import Derived.Deep.QuietTactic
import Derived.BigQuiet
namespace Go.Proofs.Ytafmeagfockdfaa.Pl
open Go.RowKit Go.Proofs.YtafmeagfockdfaaW.PrintWords Go.Proofs.YtafmeagfockdfaaW.PrintLast Go.Proofs.YtafmeagfockdfaaW.PrintMore

theorem below_of_drewN {w w' : World} {n : Nat} (h : Below (w.drewN n).heap.size (w.drewN n) w') : Below w.heap.size w w' := ⟨h.os, h.tape, h.output, h.size, h.block⟩
theorem better_is (b : Bool) (p best : Int) (found : Bool) (hb : (!found || decide (p < best)) = b) (bf bb : Nat) (w : World) (h1 : w.cell? ⟨bf, 0, none⟩ = some (.bool found)) (h2 : w.cell? ⟨bb, 0, none⟩ = some (.int .i64 best)) :
    Calls Try.prog 108 #[.int .i64 p, .pointer (some ⟨bf, 0, none⟩), .pointer (some ⟨bb, 0, none⟩)] w fun e w' => e = .returned (.bool b) ∧ w = w' := by
  subst hb
  exact better_calls p best found bf bb w h1 h2
/-- What Free's own cells hold between two rounds. -/
structure FreeI (b N : Nat) (A0 : Option Addr) (n0 c0 : Nat) (A1 : Option Addr) (n1 c1 : Nat) (a2 a3 n : Int) (st : Int × Bool) (w W : World) : Prop where
  p0 : W.cell? ⟨b, 0, none⟩ = some (.slice A0 n0 c0)
  p1 : W.cell? ⟨b + 1, 0, none⟩ = some (.slice A1 n1 c1)
  p2 : W.cell? ⟨b + 1 + 1, 0, none⟩ = some (.int .i64 a2)
  p3 : W.cell? ⟨b + 1 + 1 + 1, 0, none⟩ = some (.int .i64 a3)
  n0 : W.cell? ⟨N, 0, none⟩ = some (.int .i64 n)
  n1 : W.cell? ⟨N + 1, 0, none⟩ = some (.int .i64 st.1)
  n2 : W.cell? ⟨N + 1 + 1, 0, none⟩ = some (.bool st.2)
  n3 : W.cell? ⟨N + 1 + 1 + 1, 0, none⟩ = some (.func (.func 108) #[] #[.pointer (some ⟨N + 1 + 1, 0, none⟩), .pointer (some ⟨N + 1, 0, none⟩)])
  f1 : W.frozen? ⟨N + 1, 0, none⟩ = false
  f2 : W.frozen? ⟨N + 1 + 1, 0, none⟩ = false
  sz : N + 4 + 3 ≤ W.heap.size
  bN : b + 4 ≤ N
/-- How a round of Free ends. -/
structure FreeEnd (b N : Nat) (A0 : Option Addr) (n0 c0 : Nat) (A1 : Option Addr) (n1 c1 : Nat) (a2 a3 n : Int) (st : Int × Bool) (w W : World) (e : Exit) (W' : World) : Prop where
  e : e = .normal
  ko : KeepsOthers W W'
  kp : KpE b (N + 4) W W'
  i : FreeI b N A0 n0 c0 A1 n1 c1 a2 a3 n st w W'
  b : Below b w W'
theorem FreeI.kept {b N : Nat} {A0 : Option Addr} {n0 c0 : Nat} {A1 : Option Addr} {n1 c1 : Nat} {a2 a3 n : Int} {st : Int × Bool} {w X Y : World} {row : Option Nat} (h : FreeI b N A0 n0 c0 A1 n1 c1 a2 a3 n st w X)
    (hg : X.grownBy Y row) (hr : ∀ r, row = some r → ∃ o : Obj, X.heap[r]? = some o ∧ o.isCells = false) : FreeI b N A0 n0 c0 A1 n1 c1 a2 a3 n st w Y :=
  ⟨cell_kept h.p0 hg hr, cell_kept h.p1 hg hr, cell_kept h.p2 hg hr, cell_kept h.p3 hg hr, cell_kept h.n0 hg hr, cell_kept h.n1 hg hr, cell_kept h.n2 hg hr, cell_kept h.n3 hg hr, (frozen_kept h.n1 hg hr).trans h.f1, (frozen_kept h.n2 hg hr).trans h.f2, Nat.le_trans h.sz hg.size, h.bN⟩
theorem cell_set_ne {X : World} {p q : Addr} {u v : Value} (hne : p.block ≠ q.block) (h : X.cell? q = some v) : (X.setCell p u).cell? q = some v :=
  (World.cell?_of_block (Below.heap_setCell X p u q.block (fun e => hne e.symm))).trans h
theorem FreeI.store {b N : Nat} {A0 : Option Addr} {n0 c0 : Nat} {A1 : Option Addr} {n1 c1 : Nat} {a2 a3 n : Int} {st : Int × Bool} {w X : World} (h : FreeI b N A0 n0 c0 A1 n1 c1 a2 a3 n st w X) (x : Int) :
    FreeI b N A0 n0 c0 A1 n1 c1 a2 a3 n (x, true) w ((X.setCell ⟨N + 1, 0, none⟩ (.int .i64 x)).setCell ⟨N + 1 + 1, 0, none⟩ (.bool true)) := by
  have hb := h.bN
  have far : ∀ k : Nat, k ≠ N + 1 → k ≠ N + 1 + 1 → ∀ v, X.cell? ⟨k, 0, none⟩ = some v → ((X.setCell ⟨N + 1, 0, none⟩ (.int .i64 x)).setCell ⟨N + 1 + 1, 0, none⟩ (.bool true)).cell? ⟨k, 0, none⟩ = some v := by
    intro k h1 h2 v hv
    exact cell_set_ne (fun e => h2 e.symm) (cell_set_ne (fun e => h1 e.symm) hv)
  refine ⟨far _ (by omega) (by omega) _ h.p0, far _ (by omega) (by omega) _ h.p1, far _ (by omega) (by omega) _ h.p2, far _ (by omega) (by omega) _ h.p3, far _ (by omega) (by omega) _ h.n0, ?_, ?_, far _ (by omega) (by omega) _ h.n3, ?_, ?_, ?_, h.bN⟩
  · exact cell_set_ne (by simp) (World.cell?_setCell_same _ _ _ h.n1)
  · have e : (X.setCell ⟨N + 1, 0, none⟩ (.int .i64 x)).cell? ⟨N + 1 + 1, 0, none⟩ = some (.bool st.2) := cell_set_ne (by simp) h.n2
    exact World.cell?_setCell_same _ _ _ e
  · rw [World.frozen?_setCell, World.frozen?_setCell]; exact h.f1
  · rw [World.frozen?_setCell, World.frozen?_setCell]; exact h.f2
  · rw [World.size_setCell, World.size_setCell]; exact h.sz
attribute [local go_sem] Oper.semAt_some max2_int min2_int max_two min_two
set_option maxHeartbeats 4000000 in
set_option maxRecDepth 100000 in
theorem free_main (A0 : Option Addr) (c0 : Nat) (l0 : List S34) (A1 : Option Addr) (c1 : Nat) (l1 : List Int) (a2 : Int) (a3 : Int) (a4 : Int) (w : World) (hr0 : Kd.C k34 w A0 l0.length l0) (hr1 : Kd.C (Kd.int .i64) w A1 l1.length l1) (hc0 : l0.length ≤ c0) (hc1 : l1.length ≤ c1) (hroom : roomT a2 a3 = true) (h1 : 1 ≤ a4) :
    Calls Try.prog 71 #[.slice A0 l0.length c0, .slice A1 l1.length c1, .int .i64 a2, .int .i64 a3, .int .i64 a4] w fun e w' =>
      e = .returned (.tuple #[.int .i64 ((placesT l0 l1 a2).foldl (oneT l0 l1 a2 a3 (rndT a4)) (0, false)).1, .bool ((placesT l0 l1 a2).foldl (oneT l0 l1 a2 a3 (rndT a4)) (0, false)).2]) ∧ Below w.heap.size w w' := by
  have HR0 := Aside0.mk hr0
  have HR1 := Aside0.mk hr1
  clear hr0 hr1
  have hrm : place_room.f a2 a3 = some true := by rw [room_eq, hroom]
  have HRM := Aside0.mk hrm
  clear hrm hroom
  obtain ⟨kn, hkn⟩ := (round_ev a4).rounds
  have HKN := Aside0.mk hkn
  clear hkn
  refine callsIn_wide.1 (callsIn_of_wp_marks (n := 9) Try.func71 rfl trivial ?_ rfl)
  simp only [Try.ntmps71, List.size_toArray, List.length_cons, List.length_nil, Nat.reduceAdd, Nat.reduceSub, Array.replicate_succ, Array.replicate_zero, List.push_toArray, List.append_toArray, List.nil_append, List.cons_append]
  refine wpIn_wide.2 ?_
  go_wp2
  obtain ⟨W4, hW4, b4, z4, k0, k1, k2, k3⟩ : ∃ W4, (((w.alloc (.cells #[.slice A0 l0.length c0] 22)).alloc (.cells #[.slice A1 l1.length c1] 25)).alloc (.cells #[.int .i64 a2] 3)).alloc (.cells #[.int .i64 a3] 3) = W4 ∧ Below w.heap.size w W4 ∧ W4.heap.size = w.heap.size + 4 ∧
      W4.cell? ⟨w.heap.size, 0, none⟩ = some (.slice A0 l0.length c0) ∧ W4.cell? ⟨w.heap.size + 1, 0, none⟩ = some (.slice A1 l1.length c1) ∧ W4.cell? ⟨w.heap.size + 1 + 1, 0, none⟩ = some (.int .i64 a2) ∧ W4.cell? ⟨w.heap.size + 1 + 1 + 1, 0, none⟩ = some (.int .i64 a3) := by
    refine ⟨_, rfl, ?_, ?_, ?_, ?_, ?_, ?_⟩
    · exact ((((Below.refl _ w).alloc (Nat.le_refl _) _).alloc (by simp) _).alloc (by simp; omega) _).alloc (by simp; omega) _
    · simp
    · go_simp
    · go_simp
    · go_simp
    · go_simp
  rw [hW4]
  clear hW4
  have Z4 := Aside0.mk z4
  clear z4
  have hb0 : Below w.heap.size w W4 := b4
  have K0 := Aside0.mk k0
  have K1 := Aside0.mk k1
  clear b4
  refine wp_scope_straight ?_
  go_wp2_with fail
  refine (place_room.calls _ _ _ _ HRM.out).mono ?_
  rintro e w1 ⟨rfl, hd1⟩
  obtain ⟨nd, rfl⟩ := hd1.out
  clear hd1
  go_wp2_with fail
  refine (place_Round.calls kn _ _ _ HKN.out).mono ?_
  rintro e w2 ⟨rfl, hb2⟩
  have hb3 : Below W4.heap.size W4 w2 := below_of_drewN hb2
  clear hb2
  have q0 := cell_later k0 hb3
  have q1 := cell_later k1 hb3
  have q2 := cell_later k2 hb3
  have q3 := cell_later k3 hb3
  have hz : w.heap.size + 4 ≤ w2.heap.size := by have := hb3.size; have := Z4.out; omega
  have hb4 : Below w.heap.size w w2 := hb0.trans (hb3.mono hb0.size)
  clear hb3 k0 k1 k2 k3 K0 K1 hb0 Z4
  go_wp2
  obtain ⟨w6, hw6, b6, z6, p0, p1, p2, p3, n0, n1, n2, n3, f1, f2⟩ : ∃ w6, (((w2.alloc (.cells #[.int .i64 (rndT a4)] 3)).alloc (.cells #[.int .i64 0] 3)).alloc (.cells #[.bool false] 4)).alloc (.cells #[.func (.func 108) #[] #[.pointer (some ⟨w2.heap.size + 1 + 1, 0, none⟩), .pointer (some ⟨w2.heap.size + 1, 0, none⟩)]] 166) = w6 ∧ Below w2.heap.size w2 w6 ∧ w6.heap.size = w2.heap.size + 4 ∧
      w6.cell? ⟨w.heap.size, 0, none⟩ = some (.slice A0 l0.length c0) ∧ w6.cell? ⟨w.heap.size + 1, 0, none⟩ = some (.slice A1 l1.length c1) ∧ w6.cell? ⟨w.heap.size + 1 + 1, 0, none⟩ = some (.int .i64 a2) ∧ w6.cell? ⟨w.heap.size + 1 + 1 + 1, 0, none⟩ = some (.int .i64 a3) ∧
      w6.cell? ⟨w2.heap.size, 0, none⟩ = some (.int .i64 (rndT a4)) ∧ w6.cell? ⟨w2.heap.size + 1, 0, none⟩ = some (.int .i64 0) ∧ w6.cell? ⟨w2.heap.size + 1 + 1, 0, none⟩ = some (.bool false) ∧
      w6.cell? ⟨w2.heap.size + 1 + 1 + 1, 0, none⟩ = some (.func (.func 108) #[] #[.pointer (some ⟨w2.heap.size + 1 + 1, 0, none⟩), .pointer (some ⟨w2.heap.size + 1, 0, none⟩)]) ∧
      w6.frozen? ⟨w2.heap.size + 1, 0, none⟩ = false ∧ w6.frozen? ⟨w2.heap.size + 1 + 1, 0, none⟩ = false := by
    have hbl : Below w2.heap.size w2 ((((w2.alloc (.cells #[.int .i64 (rndT a4)] 3)).alloc (.cells #[.int .i64 0] 3)).alloc (.cells #[.bool false] 4)).alloc (.cells #[.func (.func 108) #[] #[.pointer (some ⟨w2.heap.size + 1 + 1, 0, none⟩), .pointer (some ⟨w2.heap.size + 1, 0, none⟩)]] 166)) :=
      ((((Below.refl _ w2).alloc (Nat.le_refl _) _).alloc (by simp) _).alloc (by simp; omega) _).alloc (by simp; omega) _
    refine ⟨_, rfl, hbl, by simp, cell_later q0 hbl, cell_later q1 hbl, cell_later q2 hbl, cell_later q3 hbl, ?_, ?_, ?_, ?_, ?_, ?_⟩ <;> go_simp
  rw [hw6]
  clear hw6 q0 q1 q2 q3
  have hb6 : Below w.heap.size w w6 := hb4.trans (b6.mono (by omega))
  have Z6 := Aside0.mk z6
  clear z6 b6 hb4
  go_step3
  go_wp2_with fail
  refine (ends_calls _ _ _ _ _ _ _ _).mono ?_
  rintro e w9 ⟨rfl, hw9⟩
  have Z6' := Z6.out
  obtain ⟨b9, z9, e0, e1, e2⟩ : Below w6.heap.size w6 w9 ∧ w9.heap.size = w6.heap.size + 3 ∧ w9.cell? ⟨w6.heap.size, 0, none⟩ = some (.slice A0 l0.length c0) ∧ w9.cell? ⟨w6.heap.size + 1, 0, none⟩ = some (.slice A1 l1.length c1) ∧ w9.cell? ⟨w6.heap.size + 2, 0, none⟩ = some (.int .i64 a2) := by
    subst hw9
    refine ⟨(((Below.refl _ w6).alloc (Nat.le_refl _) _).alloc (by simp) _).alloc (by simp; omega) _, by simp, ?_, ?_, ?_⟩ <;> go_simp
  clear hw9
  have hb9 : Below w.heap.size w w9 := hb6.trans (b9.mono hb6.size)
  have fz1 : w9.frozen? ⟨w2.heap.size + 1, 0, none⟩ = false := (b9.frozen (p := ⟨w2.heap.size + 1, 0, none⟩) (by simp; omega)).trans f1
  have fz2 : w9.frozen? ⟨w2.heap.size + 1 + 1, 0, none⟩ = false := (b9.frozen (p := ⟨w2.heap.size + 1 + 1, 0, none⟩) (by simp; omega)).trans f2
  replace p0 := cell_later p0 b9
  replace p1 := cell_later p1 b9
  replace p2 := cell_later p2 b9
  replace p3 := cell_later p3 b9
  replace n0 := cell_later n0 b9
  replace n1 := cell_later n1 b9
  replace n2 := cell_later n2 b9
  replace n3 := cell_later n3 b9
  clear f1 f2 b9
  rw [Z6.out] at e0 e1 e2 z9
  rw [Z6.out]
  have Z9 := Aside0.mk z9
  clear Z6' Z6 z9 hb6
  go_wp2
  have Z9' := Z9.out
  have hs0 := hb9.size
  have hm0 : l0.length ≤ 9223372036854775807 := HR0.out.2.1
  refine wpIn_wide.1 (wpIn_rangeFunc_ownF (n := 9) rfl (by omega) (gf := 133) (lb := #[.pointer (some ⟨w2.heap.size + 4 + 2, 0, none⟩), .pointer (some ⟨w2.heap.size + 4 + 1, 0, none⟩), .pointer (some ⟨w2.heap.size + 4, 0, none⟩)]) rfl trivial (enters_of Try.func133 (by kernel_rfl) rfl)
    (ends1_stops 8 (by omega) w.heap.size (w2.heap.size + 4) A0 c0 l0 A1 c1 l1 a2 w9 hs0 (by omega) (fun W hW => Kd.F_now (Kd.F_below (Kd.C_F k34_heap HR0.out) (hb9.trans hW))) (fun W hW => Kd.F_now (Kd.F_below (Kd.C_F (Kd.heap_int .i64) HR1.out) (hb9.trans hW))) e0 e1 e2)
    KpE.trans ?kb (Below.refl _ _) (fun _ => rfl)
    (fun pre W => FreeI w.heap.size w2.heap.size A0 l0.length c0 A1 l1.length c1 a2 a3 (rndT a4) (pre.foldl (oneT l0 l1 a2 a3 (rndT a4)) (0, false)) w W ∧ Below w.heap.size w W)
    (fun _ _ _ => False)
    (fun s X Y row hs hg hr => ⟨FreeI.kept hs.1 hg (fun r e => (hr r e).2), ownFrom_below (β := Unit) (Nat.le_refl _) hs0 () X Y row hs.2 hg hr⟩)
    (fun _ _ _ _ _ hs _ _ => hs)
    ⟨⟨p0, p1, p2, p3, n0, n1, n2, n3, fz1, fz2, by omega, by omega⟩, hb9⟩
    (fun x => { tmps := #[.slice A0 l0.length c0, .slice A1 l1.length c1, .int .i64 a2, .int .i64 a3, .int .i64 a4, .pointer (some ⟨w.heap.size, 0, none⟩), .pointer (some ⟨w.heap.size + 1, 0, none⟩), .pointer (some ⟨w.heap.size + 1 + 1, 0, none⟩), .pointer (some ⟨w.heap.size + 1 + 1 + 1, 0, none⟩), undef, .int .i64 0,
          .bool false, .pointer (some ⟨w2.heap.size, 0, none⟩), .pointer (some ⟨w2.heap.size + 1, 0, none⟩), .pointer (some ⟨w2.heap.size + 1 + 1, 0, none⟩), .pointer (some ⟨w2.heap.size + 1 + 1 + 1, 0, none⟩), .int .i64 x, .int .i64 a2, .int .i64 a3, .bool true, .bool false, .bool false, .int .i64 a4,
          .bool (decide (a4 < 1)), .bool (decide (a4 < 1)), .int .i64 a4, .int .i64 (rndT a4), .func (.func 108) #[] #[.pointer (some ⟨w2.heap.size + 1 + 1, 0, none⟩), .pointer (some ⟨w2.heap.size + 1, 0, none⟩)],
          .slice A0 l0.length c0, .slice A1 l1.length c1, .int .i64 a2, .func (.func 133) #[] #[.pointer (some ⟨w2.heap.size + 4 + 2, 0, none⟩), .pointer (some ⟨w2.heap.size + 4 + 1, 0, none⟩), .pointer (some ⟨w2.heap.size + 4, 0, none⟩)], .int .i64 x,
          undef, undef, undef, undef, undef, undef, undef, undef, undef, undef, undef, undef, undef, undef, undef, undef, undef, undef, undef, undef, undef, undef], defers := [] }) ?assign ?body ?done ?stop)
  case kb =>
    intro W l o o' hl ho hc hw
    exact ⟨belowK_b hs0 W l o o' hl ho hc hw, fun k h1 h2 => World.putObj_heap_other (by omega)⟩
  case assign =>
    intro l x W K hK
    gi_wp2
    exact hK
  case body =>
    rintro l pre x W ⟨hI, hB⟩ _
    refine wpIn_mono (Q := fun e _ W' => FreeEnd w.heap.size w2.heap.size A0 l0.length c0 A1 l1.length c1 a2 a3 (rndT a4) (oneT l0 l1 a2 a3 (rndT a4) (pre.foldl (oneT l0 l1 a2 a3 (rndT a4)) (0, false)) x) w W e W') ?_ ?end_
    case end_ =>
      rintro e a W' h
      obtain rfl := h.e
      exact ⟨h.ko, h.kp, by rw [List.foldl_append]; exact h.i, h.b⟩
    generalize pre.foldl (oneT l0 l1 a2 a3 (rndT a4)) (0, false) = st at hI ⊢
    obtain ⟨best, found⟩ := st
    have HI := Aside0.mk hI
    have p0 := hI.p0
    have p1 := hI.p1
    have p2 := hI.p2
    have p3 := hI.p3
    have n0 := hI.n0
    have n1 := hI.n1
    have n2 := hI.n2
    have n3 := hI.n3
    have f1 := hI.f1
    have f2 := hI.f2
    clear hI
    by_cases hc1 : Int.tmod x 64 = 0
    · have t1 : (Int.tmod x 64 != 0) = false := by simp [hc1]
      cases hbt : (!found || decide (x < best)) with
      | false =>
        have e1 : oneT l0 l1 a2 a3 (rndT a4) (best, found) x = (best, found) := by
          unfold oneT; rw [if_neg]; rintro ⟨_, h, _⟩; rw [Bool.or_eq_false_iff] at hbt; rcases h with h | h <;> simp_all
        rw [e1]
        have HBT := Aside0.mk hbt
        clear hbt e1 hc1
        gi_wp2_with (refine ⟨trivial, ?_⟩; gi_at_call 108; refine (CallsIn.inRound l (callsIn_wide.2 (better_is false x best found HBT.out _ _ _ n2 n1))).mono ?_; rintro e w' ⟨rfl, rfl⟩)
        refine ⟨trivial, ?_⟩
        gi_wp2
        exact ⟨rfl, KeepsOthers.refl _, KpE.refl _ _ _, HI.out, hB⟩
      | true =>
        have HBT := Aside0.mk hbt
        have hC0 := Kd.F_now (Kd.F_below (Kd.C_F k34_heap HR0.out) hB)
        have hC1 := Kd.F_now (Kd.F_below (Kd.C_F (Kd.heap_int .i64) HR1.out) hB)
        have hsB := hB.size
        have hlt6 : w2.heap.size + 4 + 3 ≤ W.heap.size := HI.out.sz
        have hb4 := HI.out.bN
        cases hft : fitsT l0 l1 a2 a3 x (rndT a4) with
        | false =>
          have e1 : oneT l0 l1 a2 a3 (rndT a4) (best, found) x = (best, found) := by
            unfold oneT; rw [if_neg]; rintro ⟨_, _, h⟩; rw [hft] at h; cases h
          rw [e1]
          obtain ⟨kf, hkf⟩ := (fits_ev l0 l1 a2 a3 x (rndT a4) hm0).rounds
          rw [hft] at hkf
          have HKF := Aside0.mk hkf
          clear hbt e1 hc1 hkf hft
          gi_wp2_with (first
            | (refine ⟨trivial, ?_⟩; gi_at_call 108; refine (CallsIn.inRound l (callsIn_wide.2 (better_is true x best found HBT.out _ _ _ n2 n1))).mono ?_; rintro e w' ⟨rfl, rfl⟩)
            | (refine ⟨trivial, ?_⟩; gi_at_call 70; refine (CallsIn.inRound l (callsIn_wide.2 (place_fits.calls kf _ _ _ _ _ _ _ _ _ _ _ _ hC0 hc0 hC1 hc1 HKF.out))).mono ?_; rintro e w' ⟨rfl, hb⟩))
          exact ⟨rfl, KeepsOthers.of_grownBy (grown_of_below hb) (fun j o e => by cases e), KpE.of_below hsB (by omega) hb, HI.out.kept (grown_of_below hb) (fun r e => by cases e), hB.trans (hb.mono hsB)⟩
        | true =>
          have e1 : oneT l0 l1 a2 a3 (rndT a4) (best, found) x = (x, true) := by
            unfold oneT; rw [if_pos]; exact ⟨hc1, by cases found <;> simp_all, hft⟩
          rw [e1]
          obtain ⟨kf, hkf⟩ := (fits_ev l0 l1 a2 a3 x (rndT a4) hm0).rounds
          rw [hft] at hkf
          have HKF := Aside0.mk hkf
          clear hbt e1 hc1 hkf hft
          gi_wp2_with (first
            | (refine ⟨trivial, ?_⟩; gi_at_call 108; refine (CallsIn.inRound l (callsIn_wide.2 (better_is true x best found HBT.out _ _ _ n2 n1))).mono ?_; rintro e w' ⟨rfl, rfl⟩)
            | (refine ⟨trivial, ?_⟩; gi_at_call 70; refine (CallsIn.inRound l (callsIn_wide.2 (place_fits.calls kf _ _ _ _ _ _ _ _ _ _ _ _ hC0 hc0 hC1 hc1 HKF.out))).mono ?_; rintro e w' ⟨rfl, hb⟩; have hI' := HI.out.kept (grown_of_below hb) (fun r e => by cases e); have n1' := hI'.n1; have n2' := hI'.n2; have f1' := hI'.f1; have f2' := hI'.f2; have HI' := Aside0.mk hI'; clear hI'))
          have hw' : Below w.heap.size w w' := hB.trans (hb.mono hsB)
          refine ⟨rfl, ?_, ?_, HI'.out.store x, ?_⟩
          · exact (KeepsOthers.of_grownBy (grown_of_below hb) (fun j o e => by cases e)).trans ((KeepsOthers.setCell _ _ _).trans (KeepsOthers.setCell _ _ _))
          · refine (KpE.of_below hsB (by omega) hb).trans ⟨((Below.refl _ _).setCell (p := ⟨w2.heap.size + 1, 0, none⟩) (by simp; omega) _).setCell (p := ⟨w2.heap.size + 1 + 1, 0, none⟩) (by simp; omega) _, fun k h1 h2 => ?_⟩
            rw [Below.heap_setCell _ _ _ _ (by simp; omega), Below.heap_setCell _ _ _ _ (by simp; omega)]
          · exact (hw'.setCell (p := ⟨w2.heap.size + 1, 0, none⟩) (by simp; omega) _).setCell (p := ⟨w2.heap.size + 1 + 1, 0, none⟩) (by simp; omega) _
    · have t1 : (Int.tmod x 64 != 0) = true := by simpa using hc1
      have e1 : oneT l0 l1 a2 a3 (rndT a4) (best, found) x = (best, found) := by
        unfold oneT; rw [if_neg]; exact fun h => hc1 h.1
      rw [e1]
      clear e1 hc1
      gi_wp2
      refine ⟨fun _ h => (by cases h), ?_⟩
      gi_wp2
      refine ⟨trivial, ?_⟩
      gi_wp2
      exact ⟨rfl, KeepsOthers.refl _, KpE.refl _ _ _, HI.out, hB⟩
  case done =>
    rintro D ys W hD rfl ⟨hI, hB⟩ hK
    have n1 := hI.n1
    have n2 := hI.n2
    have hbN := hI.bN
    clear p0 p1 p2 p3 n0 n3 fz1 fz2 e0 e1 e2 hI
    generalize hst : (placesT l0 l1 a2).foldl (oneT l0 l1 a2 a3 (rndT a4)) (0, false) = st at n1 n2
    obtain ⟨best, found⟩ := st
    have HST := Aside0.mk hst
    clear hst
    go_wp2
    go_quiet (fail)
    go_wp2
    have hK' : ∀ q, (W.drewN q).heap[D]? = some (.deferred (some [])) := fun _ => hK
    refine ⟨by simp, .inl ⟨_, _, rfl, run_takeDeferred (hK' _), ?_⟩⟩
    exact ⟨_, results_tmp2 rfl _ _ _, by rw [HST.out]; rfl, (pw_below_drewN hB _).trans (belowK_b (w := w) (Nat.le_refl _) _ D _ _ (by omega) (hK' _) rfl rfl)⟩
  case stop =>
    rintro D c pre W _ _ h _
    exact h.elim

set_option maxHeartbeats 4000000 in
set_option maxRecDepth 100000 in
theorem free_room (A0 : Option Addr) (n0 c0 : Nat) (A1 : Option Addr) (n1 c1 : Nat) (a2 : Int) (a3 : Int) (a4 : Int) (w : World) (hroom : roomT a2 a3 = false) :
    Calls Try.prog 71 #[.slice A0 n0 c0, .slice A1 n1 c1, .int .i64 a2, .int .i64 a3, .int .i64 a4] w fun e w' => e = .returned (.tuple #[.int .i64 0, .bool false]) ∧ Below w.heap.size w w' := by
  have hrm : place_room.f a2 a3 = some false := by rw [room_eq, hroom]
  have HRM := Aside0.mk hrm
  clear hrm hroom
  go_enter Try.func71, Try.ntmps71
  go_wp2
  refine wp_scope_straight ?_
  go_wp2_with fail
  refine (place_room.calls _ _ _ _ HRM.out).mono ?_
  rintro e w1 ⟨rfl, hd1⟩
  obtain ⟨nd, rfl⟩ := hd1.out
  clear hd1
  go_wp2
  rw [Exit.noGoto_ret]
  go_ret2
  exact ⟨rfl, pw_below_drewN (((((Below.refl _ w).alloc (Nat.le_refl _) _).alloc (by simp) _).alloc (by simp; omega) _).alloc (by simp; omega) _) _⟩

set_option maxHeartbeats 4000000 in
set_option maxRecDepth 100000 in
theorem free_small (A0 : Option Addr) (n0 c0 : Nat) (A1 : Option Addr) (n1 c1 : Nat) (a2 : Int) (a3 : Int) (a4 : Int) (w : World) (hroom : roomT a2 a3 = true) (h1 : a4 < 1) :
    Calls Try.prog 71 #[.slice A0 n0 c0, .slice A1 n1 c1, .int .i64 a2, .int .i64 a3, .int .i64 a4] w fun e w' => e = .returned (.tuple #[.int .i64 0, .bool false]) ∧ Below w.heap.size w w' := by
  have hrm : place_room.f a2 a3 = some true := by rw [room_eq, hroom]
  have HRM := Aside0.mk hrm
  clear hrm hroom
  go_enter Try.func71, Try.ntmps71
  go_wp2
  refine wp_scope_straight ?_
  go_wp2_with fail
  refine (place_room.calls _ _ _ _ HRM.out).mono ?_
  rintro e w1 ⟨rfl, hd1⟩
  obtain ⟨nd, rfl⟩ := hd1.out
  clear hd1
  go_wp2
  rw [Exit.noGoto_ret]
  go_ret2
  exact ⟨rfl, pw_below_drewN (((((Below.refl _ w).alloc (Nat.le_refl _) _).alloc (by simp) _).alloc (by simp; omega) _).alloc (by simp; omega) _) _⟩

theorem place_Free.calls (A0 : Option Addr) (c0 : Nat) (l0 : List (S34)) (A1 : Option Addr) (c1 : Nat) (l1 : List Int) (a2 : Int) (a3 : Int) (a4 : Int) (r1 : Int) (r2 : Bool) (w : World) (hr0 : Kd.C k34 w A0 l0.length l0) (hc0 : l0.length ≤ c0) (hr1 : Kd.C (Kd.int .i64) w A1 l1.length l1) (hc1 : l1.length ≤ c1) (h : place_Free.f l0 l1 a2 a3 a4 = some (r1, r2)) :
    Calls Try.prog 71 #[.slice A0 l0.length c0, .slice A1 l1.length c1, .int .i64 a2, .int .i64 a3, .int .i64 a4] w fun e w' => e = .returned (.tuple #[.int .i64 r1, .bool r2]) ∧ Below w.heap.size w w' := by
  have h' : freeT l0 l1 a2 a3 a4 = (r1, r2) := Option.some.inj h
  unfold freeT at h'
  cases hroom : roomT a2 a3 with
  | false =>
    rw [if_neg (by rw [hroom]; simp)] at h'
    cases h'
    exact free_room A0 _ c0 A1 _ c1 a2 a3 a4 w hroom
  | true =>
    by_cases h1 : 1 ≤ a4
    · rw [if_pos ⟨hroom, h1⟩] at h'
      have := free_main A0 c0 l0 A1 c1 l1 a2 a3 a4 w hr0 hr1 hc0 hc1 hroom h1
      rw [h'] at this
      exact this
    · rw [if_neg (fun hh => h1 hh.2)] at h'
      cases h'
      exact free_small A0 _ c0 A1 _ c1 a2 a3 a4 w hroom (by omega)
end Go.Proofs.Ytafmeagfockdfaa.Pl
