/-
  region.row and its closures: what they do, called. (Written by mk_rgrow.py, a program of this session.)
-/
import Derived.Test.YtafmeagfockdfaaRgT
import Derived.WalkMore
import Derived.Laws.EntriesVeiled
import Derived.Deep.QuietTactic
import Derived.BigQuiet
namespace Go.Proofs.Ytafmeagfockdfaa.Rg
open Go.RowKit Go.Proofs.YtafmeagfockdfaaW.PrintWords Go.Proofs.YtafmeagfockdfaaW.PrintLast Go.Proofs.YtafmeagfockdfaaW.PrintMore

set_option linter.unusedVariables false
set_option linter.unusedSimpArgs false

set_option maxHeartbeats 1000000 in
set_option maxRecDepth 100000 in
theorem row_calls (w : World) :
    Calls Try.prog 78 #[] w fun e w' => e = .returned (.tuple #[.func (.func 111) #[] #[.pointer (some ⟨w.heap.size, 0, none⟩)], .func (.func 112) #[] #[.pointer (some ⟨w.heap.size, 0, none⟩)]]) ∧
      w.alloc (.cells #[.slice none 0 0] 43) = w' := by
  go_enter Try.func78, Try.ntmps78
  go_wp2
  go_ret2
  exact ⟨rfl, rfl⟩

set_option maxHeartbeats 1000000 in
set_option maxRecDepth 100000 in
theorem told_calls (b : Nat) (A : Option Addr) (n c : Nat) (w : World) (h : w.cell? ⟨b, 0, none⟩ = some (.slice A n c)) (hn : n ≤ c) :
    Calls Try.prog 112 #[.pointer (some ⟨b, 0, none⟩)] w fun e w' => e = .returned (.slice A n n) ∧ Below w.heap.size w w' := by
  go_enter Try.func112, Try.ntmps112
  go_wp2
  go_ret
  exact ⟨rfl, Below.refl _ _⟩

/-- What the row's cell holds. -/
structure RowSt (b : Nat) (W : World) (v : Value) (xs : List S41) : Prop where
  bk : W.heap[b]? = some (.cells #[v] 43 (0, 0))
  own : Kd.R k41 41 W b (fun k => k ≠ b) v xs
/-- What a call of put leaves as it was. -/
structure PutK (b : Nat) (v : Value) (W W' : World) (v' : Value) : Prop where
  bel : Below b W W'
  keep : ∀ k, k < W.heap.size → k ≠ b → some k ≠ v.ownBlock → W'.heap[k]? = W.heap[k]?
  own : v'.ownBlock = v.ownBlock ∨ ∃ g, v'.ownBlock = some g ∧ W.heap.size ≤ g
theorem PutK.of_below {b : Nat} {v : Value} {W W' : World} (hb : b ≤ W.heap.size) (h : Below W.heap.size W W') : PutK b v W W' v := ⟨h.mono hb, fun k hk _ _ => h.block k hk, .inl rfl⟩

theorem put_fin {b : Nat} {ys : List S41} {v v1 : Value} {w w3 w1 : World} (HW : Below w.heap.size w w3) (hbe : Below b w w1) (BB1 : w1.heap[b]? = some (.cells #[v] 43 (0, 0))) (ho : Kd.R k41 41 w1 b (fun k => k ≠ b) v1 ys) (hg : w3.grownBy w1 v.ownBlock)
    (hat : v1.ownBlock = v.ownBlock ∨ ∃ g, v1.ownBlock = some g ∧ w3.heap.size ≤ g) : RowSt b (w1.setCell ⟨b, 0, none⟩ v1) v1 ys ∧ PutK b v w (w1.setCell ⟨b, 0, none⟩ v1) v1 := by
  refine ⟨⟨by simpa using blk_set BB1 0 v1, Kd.R_step ho (fun k hk _ => Below.heap_setCell w1 ⟨b, 0, none⟩ v1 k hk)⟩, hbe.setCell (p := ⟨b, 0, none⟩) (Nat.le_refl _) v1, fun k hk hb hn => ?_, ?_⟩
  · exact (Below.heap_setCell w1 ⟨b, 0, none⟩ v1 k hb).trans ((hg.block k (Nat.lt_of_lt_of_le hk HW.size) hn).trans (HW.block k hk))
  · rcases hat with h | ⟨g, h1, h2⟩
    · exact .inl h
    · exact .inr ⟨g, h1, Nat.le_trans HW.size h2⟩

set_option maxHeartbeats 4000000 in
set_option maxRecDepth 100000 in
theorem put_skip (r : S41) (b : Nat) (xs : List S41) (v : Value) (w : World) (h : RowSt b w v xs) (h1 : r.f0 ≥ r.f1) :
    Calls Try.prog 111 #[.agg #[.int .i64 r.f0, .int .i64 r.f1, .int .i64 r.f2, .int .i64 r.f3, .int .i64 r.f4, .int .i64 r.f5], .pointer (some ⟨b, 0, none⟩)] w fun e w' => e = .returned (.tuple #[]) ∧ Below w.heap.size w w' := by
  obtain ⟨A, c, rfl⟩ := Kd.R_slice h.own
  have e1 : decide (r.f1 ≤ r.f0) = true := decide_eq_true h1
  have hb := blk_alloc h.bk (.cells #[.int .i64 r.f0, .int .i64 r.f1, .int .i64 r.f2, .int .i64 r.f3, .int .i64 r.f4, .int .i64 r.f5] 41)
  have hc : (w.alloc (.cells #[.int .i64 r.f0, .int .i64 r.f1, .int .i64 r.f2, .int .i64 r.f3, .int .i64 r.f4, .int .i64 r.f5] 41)).cell? ⟨b, 0, none⟩ = some (.slice A xs.length c) := (blk_cell hb 0).trans rfl
  go_enter Try.func111, Try.ntmps111
  go_wp2
  go_end0
  exact ⟨rfl, below_alloc (Below.refl _ _) _⟩

set_option maxHeartbeats 4000000 in
set_option maxRecDepth 100000 in
theorem put_first (r : S41) (b : Nat) (v : Value) (w : World) (h : RowSt b w v []) (h1 : ¬ r.f0 ≥ r.f1) :
    Calls Try.prog 111 #[.agg #[.int .i64 r.f0, .int .i64 r.f1, .int .i64 r.f2, .int .i64 r.f3, .int .i64 r.f4, .int .i64 r.f5], .pointer (some ⟨b, 0, none⟩)] w fun e w' => e = .returned (.tuple #[]) ∧ ∃ v', RowSt b w' v' [r] ∧ PutK b v w w' v' := by
  obtain ⟨A, c, rfl⟩ := Kd.R_slice h.own
  have e1 : decide (r.f1 ≤ r.f0) = false := decide_eq_false h1
  have hb := blk_alloc h.bk (.cells #[.int .i64 r.f0, .int .i64 r.f1, .int .i64 r.f2, .int .i64 r.f3, .int .i64 r.f4, .int .i64 r.f5] 41)
  have hc : (w.alloc (.cells #[.int .i64 r.f0, .int .i64 r.f1, .int .i64 r.f2, .int .i64 r.f3, .int .i64 r.f4, .int .i64 r.f5] 41)).cell? ⟨b, 0, none⟩ = some (.slice A ([] : List S41).length c) := (blk_cell hb 0).trans rfl
  simp only [List.length_nil] at hc
  go_enter Try.func111, Try.ntmps111
  go_wp2
  go_quiet (fail)
  have HR := Aside0.mk (Kd.R_drewN (Kd.R_alloc h.own (.cells #[.int .i64 r.f0, .int .i64 r.f1, .int .i64 r.f2, .int .i64 r.f3, .int .i64 r.f4, .int .i64 r.f5] 41)) nq)
  have HB := Aside0.mk (pw_below_drewN ((Below.refl b w).alloc (Nat.le_of_lt (blk_lt h.bk)) (.cells #[.int .i64 r.f0, .int .i64 r.f1, .int .i64 r.f2, .int .i64 r.f3, .int .i64 r.f4, .int .i64 r.f5] 41)) nq)
  have HW := Aside0.mk (pw_below_drewN (below_alloc (Below.refl w.heap.size w) (.cells #[.int .i64 r.f0, .int .i64 r.f1, .int .i64 r.f2, .int .i64 r.f3, .int .i64 r.f4, .int .i64 r.f5] 41)) nq)
  have BB := Aside0.mk (blk_drewN hb nq)
  have BX := Aside0.mk (blk_drewN (blk_new w (.cells #[.int .i64 r.f0, .int .i64 r.f1, .int .i64 r.f2, .int .i64 r.f3, .int .i64 r.f4, .int .i64 r.f5] 41)) nq)
  clear hc hb
  generalize (w.alloc (.cells #[.int .i64 r.f0, .int .i64 r.f1, .int .i64 r.f2, .int .i64 r.f3, .int .i64 r.f4, .int .i64 r.f5] 41)).drewN nq = w3 at HR HB HW BB BX ⊢
  have hs0 : w3.cell? ⟨b, 0, none⟩ = some (.slice A ([] : List S41).length c) := (blk_cell BB.out 0).trans rfl
  try simp only [List.length_nil] at hs0
  have hz0 := (blk_cell BX.out 0).trans (rfl : _ = some (Value.int .i64 r.f0))
  have hz1 := (blk_cell BX.out 1).trans (rfl : _ = some (Value.int .i64 r.f1))
  have hz2 := (blk_cell BX.out 2).trans (rfl : _ = some (Value.int .i64 r.f2))
  have hz3 := (blk_cell BX.out 3).trans (rfl : _ = some (Value.int .i64 r.f3))
  have hz4 := (blk_cell BX.out 4).trans (rfl : _ = some (Value.int .i64 r.f4))
  have hz5 := (blk_cell BX.out 5).trans (rfl : _ = some (Value.int .i64 r.f5))
  have HF := Aside0.mk (fun k (hk : w3.heap.size ≤ k) => (show k ≠ b by have := blk_lt BB.out; omega))
  have HS := Aside0.mk (Nat.le_of_lt (blk_lt BB.out))
  go_wp2_with (first | ((with_reducible refine gate_builtin (b := .append) (xs := #[.tmp 6, .tmp 8]) rfl ?_); at_builtin; refine Kd.R_append k41 (w0 := w) b rfl (.tmp 6) (.tmp 8) 43 41 (.agg #[(.int .i64 0), (.int .i64 0), (.int .i64 0), (.int .i64 0), (.int .i64 0), (.int .i64 0)]) 48 rfl Try.underlying43 info41 rfl (by decide) (by omega) (.slice A ([] : List S41).length c) ([] : List S41) r [.int .i64 r.f0, .int .i64 r.f1, .int .i64 r.f2, .int .i64 r.f3, .int .i64 r.f4, .int .i64 r.f5] (fun k_ => k_ ≠ b) (fun _ => False) rfl rfl ?aP (fun _ hk => hk.elim) ?aF ?aO ?aB ?aS ?aL ?_; (case aP => exact k41_mkM _ _ _ r); (case aB => exact HB.out); (case aF => exact HF.out); (case aO => exact HR.out); (case aS => exact HS.out); (case aL => simp); intro v1 w1 ho hbe hg hat; obtain ⟨A1, c1, rfl⟩ := Kd.R_slice ho; have BB1 := blk_grown BB.out hg (Kd.R_away HR.out (fun _ hk => hk)); have hs1 := (blk_cell BB1 0).trans (rfl : _ = some (Value.slice (A) ([] : List S41).length c)); have hf1 := blk_frozen BB1 0; have HFIN := Aside0.mk (put_fin HW.out hbe BB1 ho hg hat); clear ho hbe hg hat BB1))
  go_wp2
  go_end0
  exact ⟨rfl, _, HFIN.out⟩

def put_.T4 : Bool × List (List Nat × List Nat) := (true, [([], []), ([0], [0]), ([1], [1]), ([2], [2]), ([2], [2]), ([4, 2], [2, 4]), ([3, 5, 2], [2, 3, 5]), ([6, 2], [2, 6]), ([2], [2]), ([7, 8, 2, 2], [2, 7, 8]), ([2, 9], [2, 9]), ([10, 9], [10])])
def put_.B4 : List Nat := [0, 1, 3, 7, 7, 23, 63, 127, 7, 511, 1023, 2047]
theorem put_.tab4 : rtab .any (opsOf Try.f111 4) = put_.T4 := by kernel_rfl
theorem put_.bits4 : waitsOk put_.T4.2 put_.B4 = true := by kernel_rfl
set_option maxHeartbeats 8000000 in
set_option maxRecDepth 100000 in
theorem put_more (r : S41) (b : Nat) (xs : List S41) (v : Value) (w : World) (h : RowSt b w v xs) (hl : xs.length < 10000000) (h0 : 0 < xs.length) (h1 : ¬ r.f0 ≥ r.f1) :
    Calls Try.prog 111 #[.agg #[.int .i64 r.f0, .int .i64 r.f1, .int .i64 r.f2, .int .i64 r.f3, .int .i64 r.f4, .int .i64 r.f5], .pointer (some ⟨b, 0, none⟩)] w fun e w' => e = .returned (.tuple #[]) ∧ ∃ v', RowSt b w' v' (putT xs r) ∧ PutK b v w w' v' := by
  obtain ⟨g, c, rfl, hbg, hgl, cl, hgc⟩ := Kd.R_form h.own h0
  have H1 := Aside0.mk h1
  clear hgc cl
  have e1 : decide (r.f1 ≤ r.f0) = false := decide_eq_false h1
  have g1 : decide (0 < xs.length) = true := decide_eq_true h0
  have g2 : decide (0 < (xs.length : Int)) = true := decide_eq_true (by omega)
  have hb := blk_alloc h.bk (.cells #[.int .i64 r.f0, .int .i64 r.f1, .int .i64 r.f2, .int .i64 r.f3, .int .i64 r.f4, .int .i64 r.f5] 41)
  have hc : (w.alloc (.cells #[.int .i64 r.f0, .int .i64 r.f1, .int .i64 r.f2, .int .i64 r.f3, .int .i64 r.f4, .int .i64 r.f5] 41)).cell? ⟨b, 0, none⟩ = some (.slice (some ⟨g, 0, none⟩) xs.length c) := (blk_cell hb 0).trans rfl
  obtain ⟨o, ho⟩ : ∃ o, oneT (rd_T41 xs ((xs.length : Int) - 1)) r = o := ⟨_, rfl⟩
  have HO := Aside0.mk ((one_eq (rd_T41 xs ((xs.length : Int) - 1)) r).trans (congrArg some ho))
  have HOT := Aside0.mk ho
  clear ho
  obtain ⟨ji, hji⟩ : ∃ j : Int, (xs.length : Int) - 1 = j := ⟨_, rfl⟩
  have hw : IntKind.i64.wrap ((xs.length : Int) - 1) = ji := by rw [i64_w]; unfold wrap64; omega
  have hw2 : wrap64 ((xs.length : Int) - 1) = ji := by unfold wrap64; omega
  have p1 : 0 ≤ ji := by omega
  have q1 : ji < (xs.length : Int) := by omega
  rw [hji] at HO HOT
  have HJ := Aside0.mk hji
  clear hji
  have HBo := Aside0.mk h.bk
  have HRo := Aside0.mk h.own
  have GL := Aside0.mk hgl
  have GB := Aside0.mk hbg
  have HL := Aside0.mk (⟨hl, h0⟩ : xs.length < 10000000 ∧ 0 < xs.length)
  clear h hgl hbg hl h0
  go_enter Try.func111, Try.ntmps111
  go_wp2
  have BX := Aside0.mk (blk_drew (blk_new w (.cells #[.int .i64 r.f0, .int .i64 r.f1, .int .i64 r.f2, .int .i64 r.f3, .int .i64 r.f4, .int .i64 r.f5] 41)))
  have BB := Aside0.mk (blk_drew hb)
  have HR := Aside0.mk (Kd.R_drew (Kd.R_alloc HRo.out (.cells #[.int .i64 r.f0, .int .i64 r.f1, .int .i64 r.f2, .int .i64 r.f3, .int .i64 r.f4, .int .i64 r.f5] 41)))
  have HB := Aside0.mk (((Below.refl b w).alloc (Nat.le_of_lt (blk_lt HBo.out)) (.cells #[.int .i64 r.f0, .int .i64 r.f1, .int .i64 r.f2, .int .i64 r.f3, .int .i64 r.f4, .int .i64 r.f5] 41)).drew)
  have HW := Aside0.mk ((below_alloc (Below.refl w.heap.size w) (.cells #[.int .i64 r.f0, .int .i64 r.f1, .int .i64 r.f2, .int .i64 r.f3, .int .i64 r.f4, .int .i64 r.f5] 41)).drew)
  obtain ⟨ce, hcl, hM, hcc, hfr⟩ := Kd.R_elem HR.out z41 ji p1 q1
  obtain rfl := k41_openM hM
  have hx0 := hcc 0 _ rfl
  have hx1 := hcc 1 _ rfl
  have hx2 := hcc 2 _ rfl
  have hx3 := hcc 3 _ rfl
  have hx4 := hcc 4 _ rfl
  have hx5 := hcc 5 _ rfl
  simp only [show k41.sz = 6 from rfl, Nat.add_zero] at hx0 hx1 hx2 hx3 hx4 hx5
  clear hcc hfr hM hcl
  have d1 : decide (0 ≤ ji) = true := decide_eq_true p1
  have d2 : decide (ji < (xs.length : Int)) = true := decide_eq_true q1
  replace p1 := eq_true p1
  replace q1 := eq_true q1
  replace hc : (w.alloc (.cells #[.int .i64 r.f0, .int .i64 r.f1, .int .i64 r.f2, .int .i64 r.f3, .int .i64 r.f4, .int .i64 r.f5] 41)).drew.cell? ⟨b, 0, none⟩ = some (.slice (some ⟨g, 0, none⟩) xs.length c) := hc
  generalize hN : w.heap.size = N at BX GL ⊢
  have HN := Aside0.mk hN
  clear hN
  refine start_ (n := 12) (S := fun w' => w'.cell? ⟨N, 0, none⟩ = some (.int .i64 r.f0) ∧ w'.cell? ⟨N, 1, none⟩ = some (.int .i64 r.f1) ∧ w'.cell? ⟨N, 2, none⟩ = some (.int .i64 r.f2) ∧ w'.cell? ⟨N, 3, none⟩ = some (.int .i64 r.f3) ∧ w'.cell? ⟨N, 4, none⟩ = some (.int .i64 r.f4) ∧ w'.cell? ⟨N, 5, none⟩ = some (.int .i64 r.f5) ∧ w'.cell? ⟨g, ji.toNat * 6, none⟩ = some (.int .i64 (rd_T41 xs ji).f0) ∧ w'.cell? ⟨g, ji.toNat * 6 + 1, none⟩ = some (.int .i64 (rd_T41 xs ji).f1) ∧ w'.cell? ⟨g, ji.toNat * 6 + 2, none⟩ = some (.int .i64 (rd_T41 xs ji).f2) ∧ w'.cell? ⟨g, ji.toNat * 6 + 3, none⟩ = some (.int .i64 (rd_T41 xs ji).f3) ∧ w'.cell? ⟨g, ji.toNat * 6 + 4, none⟩ = some (.int .i64 (rd_T41 xs ji).f4) ∧ w'.cell? ⟨g, ji.toNat * 6 + 5, none⟩ = some (.int .i64 (rd_T41 xs ji).f5) ∧ w'.cell? ⟨b, 0, none⟩ = some (.slice (some ⟨g, 0, none⟩) xs.length c)) (ds := []) #[false, false, false, false, false, false, false, false, false, false, false, false] (by kernel_rfl) rfl rfl ⟨(blk_cell BX.out 0).trans rfl, (blk_cell BX.out 1).trans rfl, (blk_cell BX.out 2).trans rfl, (blk_cell BX.out 3).trans rfl, (blk_cell BX.out 4).trans rfl, (blk_cell BX.out 5).trans rfl, hx0, hx1, hx2, hx3, hx4, hx5, hc⟩ (fun hHeld => ?_)
  refine with_tabW put_.tab4 put_.bits4 (fun HT_ HW_ => ?_)
  refine pure_ (i := 0) (N := some 17) (v := ?_) (a' := ?_) #[true, false, false, false, false, false, false, false, false, false, false, false] rfl rfl (any_of HT_.out (by kernel_rfl)) (fun _ _ _ h => h) (Or.inl ⟨by rfl, ?_⟩) ?_ ?_
  rotate_left
  · intro w'
    go_simp
    with_reducible rfl
  rotate_left
  · simp only [Act.put, List.setIfInBounds_toArray, List.set_cons_zero, List.set_cons_succ, i64_w, i32_w]
    rfl
  refine pure_ (i := 1) (N := some 18) (v := ?_) (a' := ?_) #[true, true, false, false, false, false, false, false, false, false, false, false] rfl rfl (any_of HT_.out (by kernel_rfl)) (fun _ _ _ h => h) (Or.inl ⟨by rfl, ?_⟩) ?_ ?_
  rotate_left
  · intro w'
    go_simp
    with_reducible rfl
  rotate_left
  · simp only [Act.put, List.setIfInBounds_toArray, List.set_cons_zero, List.set_cons_succ, i64_w, i32_w]
    rfl
  refine pure_ (i := 2) (N := some 19) (v := ?_) (a' := ?_) #[true, true, true, false, false, false, false, false, false, false, false, false] rfl rfl (any_of HT_.out (by kernel_rfl)) (fun _ _ _ h => h) (Or.inl ⟨by rfl, ?_⟩) ?_ ?_
  rotate_left
  · intro w'
    go_simp
    with_reducible rfl
  rotate_left
  · simp only [Act.put, List.setIfInBounds_toArray, List.set_cons_zero, List.set_cons_succ, i64_w, i32_w]
    rfl
  refine pure_ (i := 4) (N := some 21) (v := ?_) (a' := ?_) #[true, true, true, false, true, false, false, false, false, false, false, false] rfl rfl (any_of HT_.out (by kernel_rfl)) (fun _ _ _ h => h) (Or.inl ⟨by rfl, ?_⟩) ?_ ?_
  rotate_left
  · intro w'
    go_simp
    with_reducible rfl
  rotate_left
  · simp only [Act.put, List.setIfInBounds_toArray, List.set_cons_zero, List.set_cons_succ, i64_w, i32_w]
    rfl
  refine pure_ (i := 5) (N := some 22) (v := ?_) (a' := ?_) #[true, true, true, false, true, true, false, false, false, false, false, false] rfl rfl (any_of HT_.out (by kernel_rfl)) (fun _ _ _ h => h) (Or.inl ⟨by rfl, ?_⟩) ?_ ?_
  rotate_left
  · intro w'
    go_simp
    with_reducible rfl
  rotate_left
  · simp only [Act.put, List.setIfInBounds_toArray, List.set_cons_zero, List.set_cons_succ, i64_w, i32_w]
    rfl
  refine take_ (i := 3) (N := some 20) (v := ?_) (a' := ?_) #[true, true, true, true, true, true, false, false, false, false, false, false] rfl rfl (take_ofW HT_.out HW_.out (by kernel_rfl)) (fun _ _ _ h => h) (Or.inl ⟨by rfl, ?_⟩) hHeld ?_ ?_
  rotate_left
  · rintro w' ⟨s0, s1, s2, s3, s4, s5, s6, s7, s8, s9, s10, s11, s12⟩
    go_simp
    with_reducible rfl
  rotate_left
  · simp only [Act.put, List.setIfInBounds_toArray, List.set_cons_zero, List.set_cons_succ, i64_w, i32_w]
    rfl
  refine pure_ (i := 6) (N := some 23) (v := ?_) (a' := ?_) #[true, true, true, true, true, true, true, false, false, false, false, false] rfl rfl (any_of HT_.out (by kernel_rfl)) (fun _ _ _ h => h) (Or.inl ⟨by rfl, ?_⟩) ?_ ?_
  rotate_left
  · intro w'
    go_simp
    with_reducible rfl
  rotate_left
  · simp only [Act.put, List.setIfInBounds_toArray, List.set_cons_zero, List.set_cons_succ, i64_w, i32_w]
    rfl
  refine take_ (i := 7) (N := some 24) (v := ?_) (a' := ?_) #[true, true, true, true, true, true, true, true, false, false, false, false] rfl rfl (take_ofW HT_.out HW_.out (by kernel_rfl)) (fun _ _ _ h => h) (Or.inl ⟨by rfl, ?_⟩) hHeld ?_ ?_
  rotate_left
  · rintro w' ⟨s0, s1, s2, s3, s4, s5, s6, s7, s8, s9, s10, s11, s12⟩
    go_simp
    with_reducible rfl
  rotate_left
  · simp only [Act.put, List.setIfInBounds_toArray, List.set_cons_zero, List.set_cons_succ, i64_w, i32_w]
    rfl
  refine take_ (i := 8) (N := some 25) (v := ?_) (a' := ?_) #[true, true, true, true, true, true, true, true, true, false, false, false] rfl rfl (take_ofW HT_.out HW_.out (by kernel_rfl)) (fun _ _ _ h => h) (Or.inl ⟨by rfl, ?_⟩) hHeld ?_ ?_
  rotate_left
  · rintro w' ⟨s0, s1, s2, s3, s4, s5, s6, s7, s8, s9, s10, s11, s12⟩
    go_simp
    with_reducible rfl
  rotate_left
  · simp only [Act.put, List.setIfInBounds_toArray, List.set_cons_zero, List.set_cons_succ, i64_w, i32_w]
    rfl
  refine one_ (i := 9) (N := some 26) #[true, true, true, true, true, true, true, true, true, true, false, false] rfl rfl (one_of HT_.out (by kernel_rfl)) (by decide) (fun K hK => ?_)
  refine goes_ Try.func79 (by kernel_rfl) rfl #[.agg #[.int .i64 (rd_T41 xs ji).f0, .int .i64 (rd_T41 xs ji).f1, .int .i64 (rd_T41 xs ji).f2, .int .i64 (rd_T41 xs ji).f3, .int .i64 (rd_T41 xs ji).f4, .int .i64 (rd_T41 xs ji).f5], .agg #[.int .i64 r.f0, .int .i64 r.f1, .int .i64 r.f2, .int .i64 r.f3, .int .i64 r.f4, .int .i64 r.f5]] (by rfl) rfl rfl (by simp only [List.map_toArray, List.map_cons, List.map_nil]; rfl) ?_
  with_reducible refine (region_one.calls _ _ _ _ _ _ _ _ _ _ _ _ _ _ HO.out).mono ?_
  rintro e w3 ⟨rfl, hb3⟩
  refine ⟨_, rfl, ?_⟩
  have n0_ := Aside0.mk (blk_below BX.out hb3)
  have n1_ := Aside0.mk (blk_below BB.out hb3)
  have n2_ := Aside0.mk (Kd.R_below HR.out hb3)
  have n3_ := Aside0.mk (HB.out.trans (hb3.mono (Nat.le_trans (Nat.le_of_lt (blk_lt HBo.out)) HB.out.size)))
  have n4_ := Aside0.mk (HW.out.trans (hb3.mono HW.out.size))
  have y0 := (hb3.cell (World.block_lt_of_cell? _ _ hx0)).trans hx0
  have y1 := (hb3.cell (World.block_lt_of_cell? _ _ hx1)).trans hx1
  have y2 := (hb3.cell (World.block_lt_of_cell? _ _ hx2)).trans hx2
  have y3 := (hb3.cell (World.block_lt_of_cell? _ _ hx3)).trans hx3
  have y4 := (hb3.cell (World.block_lt_of_cell? _ _ hx4)).trans hx4
  have y5 := (hb3.cell (World.block_lt_of_cell? _ _ hx5)).trans hx5
  clear BX BB HR HB HW hb3 hc hx0 hx1 hx2 hx3 hx4 hx5
  have BX := n0_
  have BB := n1_
  have HR := n2_
  have HB := n3_
  have HW := n4_
  clear n0_ n1_ n2_ n3_ n4_
  refine hK.out _ _ ⟨(blk_cell BX.out 0).trans rfl, (blk_cell BX.out 1).trans rfl, (blk_cell BX.out 2).trans rfl, (blk_cell BX.out 3).trans rfl, (blk_cell BX.out 4).trans rfl, (blk_cell BX.out 5).trans rfl, y0, y1, y2, y3, y4, y5, (blk_cell BB.out 0).trans rfl⟩ (fun hHeld => ?_)
  clear hK K
  refine norm_ (a' := ?_) ?_ ?_
  rotate_left
  · show Act.put _ (some 26) _ = _
    simp only [Act.put, List.setIfInBounds_toArray, List.set_cons_zero, List.set_cons_succ, i64_w, i32_w]
    rfl
  refine pure_ (i := 10) (N := some 27) (v := ?_) (a' := ?_) #[true, true, true, true, true, true, true, true, true, true, true, false] rfl rfl (any_of HT_.out (by kernel_rfl)) (fun _ _ _ h => h) (Or.inl ⟨by rfl, ?_⟩) ?_ ?_
  rotate_left
  · intro w'
    go_simp
    with_reducible rfl
  rotate_left
  · simp only [Act.put, List.setIfInBounds_toArray, List.set_cons_zero, List.set_cons_succ, i64_w, i32_w]
    rfl
  refine pure_ (i := 11) (N := some 16) (v := ?_) (a' := ?_) #[true, true, true, true, true, true, true, true, true, true, true, true] rfl rfl (any_of HT_.out (by kernel_rfl)) (fun _ _ _ h => h) (Or.inl ⟨by rfl, ?_⟩) ?_ ?_
  rotate_left
  · intro w'
    go_simp
    with_reducible rfl
  rotate_left
  · simp only [Act.put, List.setIfInBounds_toArray, List.set_cons_zero, List.set_cons_succ, i64_w, i32_w]
    rfl
  refine done_ (done_of HT_.out (by kernel_rfl)) ?_

  cases o with
  | false =>
    have e2 : putT xs r = xs ++ [r] := by
      unfold putT; rw [if_neg (show ¬ r.f0 ≥ r.f1 by have := H1.out; omega), if_neg]; rw [HJ.out, HOT.out]; simp
    have E2 := Aside0.mk e2
    clear e2
    have hs0 : w3.cell? ⟨b, 0, none⟩ = some (.slice (some ⟨g, 0, none⟩) xs.length c) := (blk_cell BB.out 0).trans rfl
    try simp only [List.length_nil] at hs0
    have hz0 := (blk_cell BX.out 0).trans (rfl : _ = some (Value.int .i64 r.f0))
    have hz1 := (blk_cell BX.out 1).trans (rfl : _ = some (Value.int .i64 r.f1))
    have hz2 := (blk_cell BX.out 2).trans (rfl : _ = some (Value.int .i64 r.f2))
    have hz3 := (blk_cell BX.out 3).trans (rfl : _ = some (Value.int .i64 r.f3))
    have hz4 := (blk_cell BX.out 4).trans (rfl : _ = some (Value.int .i64 r.f4))
    have hz5 := (blk_cell BX.out 5).trans (rfl : _ = some (Value.int .i64 r.f5))
    have HF := Aside0.mk (fun k (hk : w3.heap.size ≤ k) => (show k ≠ b by have := blk_lt BB.out; omega))
    have HS := Aside0.mk (Nat.le_of_lt (blk_lt BB.out))
    go_wp2_with (first | ((with_reducible refine gate_builtin (b := .append) (xs := #[.tmp 6, .tmp 8]) rfl ?_); at_builtin; refine Kd.R_append k41 (w0 := w) b rfl (.tmp 6) (.tmp 8) 43 41 (.agg #[(.int .i64 0), (.int .i64 0), (.int .i64 0), (.int .i64 0), (.int .i64 0), (.int .i64 0)]) 48 rfl Try.underlying43 info41 rfl (by decide) (by omega) (.slice (some ⟨g, 0, none⟩) xs.length c) xs r [.int .i64 r.f0, .int .i64 r.f1, .int .i64 r.f2, .int .i64 r.f3, .int .i64 r.f4, .int .i64 r.f5] (fun k_ => k_ ≠ b) (fun _ => False) rfl rfl ?aP (fun _ hk => hk.elim) ?aF ?aO ?aB ?aS ?aL ?_; (case aP => exact k41_mkM _ _ _ r); (case aB => exact HB.out); (case aF => exact HF.out); (case aO => exact HR.out); (case aS => exact HS.out); (case aL => have := HL.out.1; omega); intro v1 w1 ho hbe hg hat; obtain ⟨A1, c1, rfl⟩ := Kd.R_slice ho; have BB1 := blk_grown BB.out hg (Kd.R_away HR.out (fun _ hk => hk)); have hs1 := (blk_cell BB1 0).trans (rfl : _ = some (Value.slice ((some ⟨g, 0, none⟩)) xs.length c)); have hf1 := blk_frozen BB1 0; have HFIN := Aside0.mk (put_fin HW.out hbe BB1 ho hg hat); clear ho hbe hg hat BB1))
    go_wp2
    go_end0
    rw [E2.out]
    have hfin := HFIN.out
    simp only [List.length_append, List.length_cons, List.length_nil, Nat.zero_add] at hfin
    exact ⟨rfl, _, hfin⟩
  | true =>
    have e2 : putT xs r = xs.set ji.toNat ⟨(rd_T41 xs ji).f0, r.f1, (rd_T41 xs ji).f2, (rd_T41 xs ji).f3, (rd_T41 xs ji).f4, (rd_T41 xs ji).f5⟩ := by
      unfold putT; rw [if_neg (show ¬ r.f0 ≥ r.f1 by have := H1.out; omega), if_pos (by rw [HJ.out]; exact ⟨HL.out.2, HOT.out⟩), HJ.out]
      rw [show xs.length - 1 = ji.toNat by have := HJ.out; omega]
    have E2 := Aside0.mk e2
    clear e2
    have hs0 : w3.cell? ⟨b, 0, none⟩ = some (.slice (some ⟨g, 0, none⟩) xs.length c) := (blk_cell BB.out 0).trans rfl
    have hz1 := (blk_cell BX.out 1).trans (rfl : _ = some (Value.int .i64 r.f1))
    obtain ⟨ce, hcl, hM, hcc, hfr⟩ := Kd.R_elem HR.out z41 ji (of_eq_true p1) (of_eq_true q1)
    obtain rfl := k41_openM hM
    have hfr1 := hfr 1
    simp only [show k41.sz = 6 from rfl] at hfr1
    have HP := Kd.R_seg HR.out ji (of_eq_true p1) (of_eq_true q1) (seg := [.int .i64 r.f1]) (j := 1) hcl hcc (show 2 ≤ 6 from by decide) (x' := (⟨(rd_T41 xs ji).f0, r.f1, (rd_T41 xs ji).f2, (rd_T41 xs ji).f3, (rd_T41 xs ji).f4, (rd_T41 xs ji).f5⟩ : S41)) (k41_mkM _ _ _ (⟨(rd_T41 xs ji).f0, r.f1, (rd_T41 xs ji).f2, (rd_T41 xs ji).f3, (rd_T41 xs ji).f4, (rd_T41 xs ji).f5⟩ : S41)) (fun _ hk => hk)
    have HP := Aside0.mk HP
    clear hcl hcc hfr hM
    go_wp2
    go_end0
    rw [E2.out]
    have hgb : g ≠ b := HR.out.1 g rfl
    refine ⟨rfl, _, ⟨(Below.heap_setCell w3 ⟨g, ji.toNat * 6 + 1, none⟩ _ b (fun e => hgb e.symm)).trans BB.out, HP.out.1⟩, HB.out.setCell (p := ⟨g, ji.toNat * 6 + 1, none⟩) GB.out _, fun k hk hb' hn => ?_, .inl rfl⟩
    exact (Below.heap_setCell w3 ⟨g, ji.toNat * 6 + 1, none⟩ _ k (fun e => hn (by rw [e]; rfl))).trans (HW.out.block k hk)
end Go.Proofs.Ytafmeagfockdfaa.Rg
