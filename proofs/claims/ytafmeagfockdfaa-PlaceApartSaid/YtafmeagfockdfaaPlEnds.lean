/-
  place.ends, its closure, and the closure 'better' of place.Free: what they do, called.
-/
import Derived.RangeFuncNested
import Derived.RangeFuncBound
import Derived.RangeFuncCalls
import Derived.RangeFuncLeaves
import Derived.RangeFuncBox
import Derived.Shelf.Abstract
import Derived.Shelf.RegionOpen
import Derived.Stop.RegionWithIn
import Derived.OwnWalkIn
import Derived.TacticsInMore
import Derived.LoopNIn
import Derived.LoopIn
import Derived.Test.YtafmeagfockdfaaPlT
namespace Go.Proofs.Ytafmeagfockdfaa.Pl
open Go.RowKit Go.Proofs.YtafmeagfockdfaaW.PrintWords Go.Proofs.YtafmeagfockdfaaW.PrintLast Go.Proofs.YtafmeagfockdfaaW.PrintMore

set_option maxHeartbeats 1000000 in
set_option maxRecDepth 100000 in
theorem better_calls (p best : Int) (found : Bool) (bf bb : Nat) (w : World) (h1 : w.cell? ⟨bf, 0, none⟩ = some (.bool found)) (h2 : w.cell? ⟨bb, 0, none⟩ = some (.int .i64 best)) :
    Calls Try.prog 108 #[.int .i64 p, .pointer (some ⟨bf, 0, none⟩), .pointer (some ⟨bb, 0, none⟩)] w fun e w' => e = .returned (.bool (!found || decide (p < best))) ∧ w = w' := by
  go_enter Try.func108, Try.ntmps108
  cases found
  · go_wp2
    go_ret
    exact ⟨rfl, rfl⟩
  · go_wp2
    go_ret
    exact ⟨rfl, rfl⟩

set_option maxHeartbeats 1000000 in
set_option maxRecDepth 100000 in
theorem ends_calls (A0 : Option Addr) (n0 c0 : Nat) (A1 : Option Addr) (n1 c1 : Nat) (low : Int) (w : World) :
    Calls Try.prog 109 #[.slice A0 n0 c0, .slice A1 n1 c1, .int .i64 low] w fun e w' => e = .returned (.func (.func 133) #[] #[.pointer (some ⟨w.heap.size + 2, 0, none⟩), .pointer (some ⟨w.heap.size + 1, 0, none⟩), .pointer (some ⟨w.heap.size, 0, none⟩)]) ∧
      ((w.alloc (.cells #[.slice A0 n0 c0] 22)).alloc (.cells #[.slice A1 n1 c1] 25)).alloc (.cells #[.int .i64 low] 3) = w' := by
  go_enter Try.func109, Try.ntmps109
  go_wp2
  go_ret
  exact ⟨rfl, rfl⟩

/-- What a round of the loop over the places keeps: whatever lay when Free was called, and the boxes of what ends captured. -/
def KpE (B c : Nat) (W W' : World) : Prop := Below B W W' ∧ ∀ k, c ≤ k → k < c + 3 → W'.heap[k]? = W.heap[k]?
theorem KpE.refl (B c : Nat) (W : World) : KpE B c W W := ⟨Below.refl _ _, fun _ _ _ => rfl⟩
theorem KpE.trans {B c : Nat} {X Y Z : World} (h : KpE B c X Y) (k : KpE B c Y Z) : KpE B c X Z :=
  ⟨h.1.trans k.1, fun i h1 h2 => (k.2 i h1 h2).trans (h.2 i h1 h2)⟩
theorem KpE.of_below {B c : Nat} {W W' : World} (hB : B ≤ W.heap.size) (hc : c + 3 ≤ W.heap.size) (h : Below W.heap.size W W') : KpE B c W W' :=
  ⟨h.mono hB, fun k _ h2 => h.block k (by omega)⟩
theorem KpE.cell {B c : Nat} {W W' : World} (h : KpE B c W W') {k : Nat} (h1 : c ≤ k) (h2 : k < c + 3) (v : Value) (hv : W.cell? ⟨k, 0, none⟩ = some v) : W'.cell? ⟨k, 0, none⟩ = some v :=
  (World.cell?_of_block (h.2 k h1 h2)).trans hv
theorem grown_of_below {W W' : World} (h : Below W.heap.size W W') : W.grownBy W' none :=
  ⟨h.os, h.tape, h.output, h.size, fun k hk _ => h.block k hk⟩

theorem placesT_length (l0 : List S34) (l1 : List Int) (low : Int) : (placesT l0 l1 low).length = min l0.length l1.length + 1 := by simp [placesT]
theorem placesT_succ (l0 : List S34) (l1 : List Int) (low : Int) (i : Nat) (h : i < l0.length) (h' : i < l1.length) :
    (placesT l0 l1 low).take (i + 1 + 1) = (placesT l0 l1 low).take (i + 1) ++ [wrap64 (rd l1 (i : Int) + rndT ((rd_T34 l0 (i : Int)).f0))] := by
  rw [List.take_succ_eq_append_getElem (by rw [placesT_length]; omega)]
  simp [placesT, rd, rd_T34, h, h']

theorem cell_later {w w' : World} {p : Addr} {v : Value} (h : w.cell? p = some v) (hb : Below w.heap.size w w') : w'.cell? p = some v := by
  obtain ⟨o, ho, _⟩ := cells_of_cell h
  exact (hb.cell (Array.getElem?_eq_some_iff.1 ho).1).trans h
theorem below_of_drew {w w' : World} (h : Below w.drew.heap.size w.drew w') : Below w.heap.size w w' := ⟨h.os, h.tape, h.output, h.size, h.block⟩
theorem yield_bool {F : Fence} {m : Nat} {P : Program} {l : Nat} {xs : Array Value} {W : World} {X Y : World → Prop}
    (h : YieldAt F m P l xs W fun e W' => (e = .returned (.bool true) ∧ X W') ∨ (e = .returned (.bool false) ∧ Y W')) :
    YieldAt F m P l xs W fun e W' => ∃ b : Bool, e = .returned (.bool b) ∧ (b = true → X W') ∧ (b = false → Y W') := by
  obtain ⟨fn, tmps, assign, body, hy, hR⟩ := h
  refine ⟨fn, tmps, assign, body, hy, hR.mono ?_⟩
  rintro e W' (⟨rfl, hx⟩ | ⟨rfl, hx⟩)
  · exact ⟨true, rfl, fun _ => hx, fun e => by cases e⟩
  · exact ⟨false, rfl, (fun e => by cases e), fun _ => hx⟩
attribute [local go_sem] Oper.semAt_some max2_int min2_int max_two min_two
set_option maxRecDepth 100000 in
set_option maxHeartbeats 4000000 in
theorem ends1_in (n : Nat) (hn : 1 ≤ n) (l B c : Nat) (A0 : Option Addr) (c0 : Nat) (l0 : List S34) (A1 : Option Addr) (c1 : Nat) (l1 : List Int) (low : Int) (w0 : World) (hBw : B ≤ w0.heap.size) (hcw : c + 3 ≤ w0.heap.size)
    (hF0 : ∀ W, Below B w0 W → Kd.C k34 W A0 l0.length l0) (hF1 : ∀ W, Below B w0 W → Kd.C (Kd.int .i64) W A1 l1.length l1) (J Jx : List Int → World → Prop) (hJ : ∀ s X Y, J s X → X.grownBy Y none → J s Y)
    (hY : ∀ pre x W, J pre W → pre.length < (placesT l0 l1 low).length → YieldAt Fence.wide (n - 1) Try.prog l #[.int .i64 x] W fun e W' =>
      (e = .returned (.bool true) ∧ J (pre ++ [x]) W' ∧ KpE B c W W') ∨ (e = .returned (.bool false) ∧ Jx (pre ++ [x]) W'))
    (W : World) (hw : KpE B c w0 W) (h1 : W.cell? ⟨c, 0, none⟩ = some (.slice A0 l0.length c0)) (h2 : W.cell? ⟨c + 1, 0, none⟩ = some (.slice A1 l1.length c1)) (h3 : W.cell? ⟨c + 2, 0, none⟩ = some (.int .i64 low)) (h0 : J [] W) :
    CallsIn Fence.wide n Try.prog 133 #[.func (.yield l) #[] #[], .pointer (some ⟨c + 2, 0, none⟩), .pointer (some ⟨c + 1, 0, none⟩), .pointer (some ⟨c, 0, none⟩)] W fun e W' => (∃ v, e = .returned v) ∧
      ((∃ ys, ys = placesT l0 l1 low ∧ J ys W') ∨ (∃ pre, True ∧ Jx pre W')) := by
  refine callsIn_of_wp Try.func133 rfl trivial ?_ rfl
  simp only [Try.ntmps133, List.size_toArray, List.length_cons, List.length_nil, Nat.reduceAdd, Nat.reduceSub, Array.replicate_succ, Array.replicate_zero, List.push_toArray, List.append_toArray, List.nil_append, List.cons_append]
  obtain ⟨fn, tmps, assign, body, hy, hR⟩ := hY [] low W h0 (by simp [placesT])
  gi_wp2
  refine hR.mono ?_
  rintro e W3 (⟨rfl, hJ3, hk3⟩ | ⟨rfl, hJx3⟩)
  · have g1 := hk3.cell (k := c) (by omega) (by omega) _ h1
    have g2 := hk3.cell (k := c + 1) (by omega) (by omega) _ h2
    obtain ⟨m, hm⟩ : ∃ m : Nat, m = min l0.length l1.length := ⟨_, rfl⟩
    have hm0 : m ≤ l0.length := by omega
    have hm1 : m ≤ l1.length := by omega
    have hmn : (if l0.length < l1.length then (l0.length : Int) else (l1.length : Int)) = (m : Int) := by split <;> omega
    have hmax : l0.length ≤ 9223372036854775807 := (hF0 w0 (Below.refl _ _)).2.1
    have hm' := Aside0.mk hm
    clear hm
    have hw3 := hw.trans hk3
    have HW3 : Aside0 (KpE B c w0 W3) := ⟨hw3⟩
    have HJ3 : Aside0 (J ((placesT l0 l1 low).take (0 + 1)) W3) := ⟨by simpa [placesT] using hJ3⟩
    clear hw3 hJ3 hw hk3 h0
    gi_wp2
    gi_loopw [15] (fun i wr => ∃ k : Nat, k ≤ m ∧ i = .int .i64 k ∧ Aside0 (J ((placesT l0 l1 low).take (k + 1)) wr) ∧ Aside0 (KpE B c w0 wr) ∧ Aside0 (wr.cell? ⟨c, 0, none⟩ = some (.slice A0 l0.length c0)) ∧ Aside0 (wr.cell? ⟨c + 1, 0, none⟩ = some (.slice A1 l1.length c1)))
      (fun i _ => m - (intOf i).toNat)
    case atStart => exact ⟨0, Nat.zero_le _, rfl, HJ3, HW3, ⟨g1⟩, ⟨g2⟩⟩
    case round =>
      clear g1 g2 HW3 HJ3 hmn h1 h2 h3 hR hy
      obtain ⟨k, hk, rfl, HJ, HW, G1, G2⟩ := hrel
      by_cases hlt : k < m
      · have g1 := G1.out
        have g2 := G2.out
        have hC0 := hF0 wr HW.out.1
        have HB : B ≤ wr.heap.size := Nat.le_trans hBw HW.out.1.size
        have HC : c + 3 ≤ wr.heap.size := Nat.le_trans hcw HW.out.1.size
        have hC1 := hF1 wr HW.out.1
        obtain ⟨ad0, e0, hx0, hx1⟩ := at_T34 hC0 (k : Int) (by omega) (by omega)
        obtain ⟨ad1, e1, hx2⟩ := Kd.at_int hC1 (k : Int) (by omega) (by omega)
        cases e0
        cases e1
        rw [Int.toNat_natCast] at hx0 hx1 hx2
        obtain ⟨kr, hkr⟩ := (round_ev ((rd_T34 l0 (k : Int)).f0)).rounds
        have hk0 : k < l0.length := by omega
        have hk1 : k < l1.length := by omega
        have hlen : ((placesT l0 l1 low).take (k + 1)).length < (placesT l0 l1 low).length := by rw [placesT_length]; simp [placesT_length]; have := hm'.out; omega
        gi_wp2
        gi_region_with (first
          | (refine ⟨trivial, ?_⟩; gi_at_call 22; refine (callsIn_wide.2 (place_Round.calls kr _ _ _ hkr)).mono ?_; rintro e w' ⟨rfl, hb⟩; have hb' := below_of_drew hb; clear hb; have n2 := cell_later g2 hb'; have n3 := cell_later hx2 hb'; obtain ⟨fn, tmps, assign, body, hy, hR⟩ := yield_bool (hY _ (IntKind.i64.wrap (rd l1 (k : Int) + rndT ((rd_T34 l0 (k : Int)).f0))) w' (hJ _ _ _ HJ.out (grown_of_below hb')) hlen))
          | (refine hR.mono ?_; rintro e W' ⟨b, rfl, hb1, hb2⟩))
        all_goals
          clear hy hR n2 n3
          cases b
          · have hx := hb2 rfl
            clear hb1 hb2
            gi_wp2
            refine bodyPost_ret (results_none rfl _ _ _) rfl ?_
            exact ⟨⟨_, rfl⟩, .inr ⟨_, trivial, hx⟩⟩
          · have hJk := (hb1 rfl).1
            have hKk := (hb1 rfl).2
            rw [i64_w, ← placesT_succ l0 l1 low k hk0 hk1] at hJk
            have HJk := Aside0.mk hJk
            have HKk := Aside0.mk (HW.out.trans ((KpE.of_below HB HC hb').trans hKk))
            have q1 := Aside0.mk (hKk.cell (k := c) (by omega) (by omega) _ (cell_later g1 hb'))
            have q2 := Aside0.mk (hKk.cell (k := c + 1) (by omega) (by omega) _ (cell_later g2 hb'))
            clear hJk hKk hb1 hb2 g1 g2 hx0 hx1 hx2
            gi_wp2
            go_roundw
            case rel => exact ⟨k + 1, by omega, by go_num, HJk, HKk, q1, q2⟩
            case measure => simp [intOf]; omega
      · gi_wp2
        go_end0
        obtain rfl : k = m := by omega
        refine ⟨⟨_, rfl⟩, .inl ⟨_, rfl, ?_⟩⟩
        have hj := HJ.out
        rwa [List.take_of_length_le (by rw [placesT_length]; have := hm'.out; omega)] at hj
  · gi_wp2
    refine bodyPost_ret (results_none rfl _ _ _) rfl ?_
    exact ⟨⟨_, rfl⟩, .inr ⟨_, trivial, hJx3⟩⟩

theorem ends1_stops (n : Nat) (hn : 1 ≤ n) (B c : Nat) (A0 : Option Addr) (c0 : Nat) (l0 : List S34) (A1 : Option Addr) (c1 : Nat) (l1 : List Int) (low : Int) (w0 : World) (hBw : B ≤ w0.heap.size) (hcw : c + 3 ≤ w0.heap.size)
    (hF0 : ∀ W, Below B w0 W → Kd.C k34 W A0 l0.length l0) (hF1 : ∀ W, Below B w0 W → Kd.C (Kd.int .i64) W A1 l1.length l1)
    (h1 : w0.cell? ⟨c, 0, none⟩ = some (.slice A0 l0.length c0)) (h2 : w0.cell? ⟨c + 1, 0, none⟩ = some (.slice A1 l1.length c1)) (h3 : w0.cell? ⟨c + 2, 0, none⟩ = some (.int .i64 low)) :
    SeqStopsK Fence.wide n Try.prog 133 #[.pointer (some ⟨c + 2, 0, none⟩), .pointer (some ⟨c + 1, 0, none⟩), .pointer (some ⟨c, 0, none⟩)] (fun x : Int => #[Value.int .i64 x]) (KpE B c) (fun ys => ys = placesT l0 l1 low) (fun _ => True) (placesT l0 l1 low).length w0 :=
  fun l J Jx W hW hJ _ hY h0 => ends1_in n hn l B c A0 c0 l0 A1 c1 l1 low w0 hBw hcw hF0 hF1 J Jx (fun s X Y hs hg => hJ s X Y none hs hg (fun r e => by cases e)) hY W (KpE.of_below hBw hcw hW) (cell_later h1 hW) (cell_later h2 hW) (cell_later h3 hW) h0
end Go.Proofs.Ytafmeagfockdfaa.Pl
