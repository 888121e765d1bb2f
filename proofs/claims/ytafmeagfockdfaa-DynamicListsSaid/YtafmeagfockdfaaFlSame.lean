/-
  dynamic.Same, called.
-/
import Derived.Test.YtafmeagfockdfaaFlByt
namespace Go.Proofs.Ytafmeagfockdfaa.Fl
open Go.Proofs.Ytafmeagfockdfaa.Evs Go.RowKit Go.Proofs.YtafmeagfockdfaaW.PrintWords Go.Proofs.YtafmeagfockdfaaW.PrintLast Go.Proofs.YtafmeagfockdfaaW.PrintMore
set_option linter.unusedVariables false
set_option linter.unusedSimpArgs false

theorem C_cells {w : World} {A : Option Addr} {l : List Int} (h : Kd.C (Kd.int .i64) w A l.length l) (hne : 0 < l.length) : ∃ b o, A = some ⟨b, o, none⟩ ∧ ∀ j, j < l.length → w.cell? ⟨b, o + j, none⟩ = some (.int .i64 (l.getD j 0)) := by
  have hget : ∀ j, j < l.length → ∃ ad, A = some ad ∧ w.cell? (ad.add j) = some (.int .i64 (l.getD j 0)) := fun j hj => by
    obtain ⟨ad, cs, e, _, hK, hcs⟩ := Kd.C_get h (0 : Int) (j : Int) (by omega) (by omega)
    obtain rfl : cs = [.int .i64 (l.getD (j : Int).toNat 0)] := hK
    have := hcs 0 _ rfl
    simp only [show (Kd.int .i64).sz = 1 from rfl, Int.toNat_natCast, Nat.mul_one, Nat.add_zero] at this
    exact ⟨ad, e, this⟩
  obtain ⟨⟨b, o, sp⟩, e, h0⟩ := hget 0 hne
  subst e
  cases sp with
  | some x =>
    simp only [World.cell?, Addr.add] at h0
    split at h0
    · simp at h0
    · cases h0
  | none =>
    refine ⟨b, o, rfl, fun j hj => ?_⟩
    obtain ⟨ad, e, h1⟩ := hget j hj
    injection e with e
    rw [← e] at h1
    unfold Addr.add at h1
    split at h1
    · rename_i hz
      subst hz
      simpa using h1
    · simpa using h1
theorem eq_calls (A0 A1 : Option Addr) (c0 c1 : Nat) (l0 l1 : List Int) (w : World) (h0 : Kd.C (Kd.int .i64) w A0 l0.length l0) (h1 : Kd.C (Kd.int .i64) w A1 l1.length l1) (n0 : l0.length ≤ 1000000) (n1 : l1.length ≤ 1000000) :
    Calls Try.prog 93 #[.slice A0 l0.length c0, .slice A1 l1.length c1] w fun e w' => e = .returned (.bool (l0 == l1)) ∧ Below w.heap.size w w' := by
  by_cases hl : l0.length = l1.length
  · by_cases hz : l0.length = 0
    · have e0 : l0 = [] := List.length_eq_zero_iff.mp hz
      have e1 : l1 = [] := List.length_eq_zero_iff.mp (by omega)
      subst e0 e1
      refine (Try.slices_Equal_int_empty A0 A1 c0 0 c1 w (by omega)).mono ?_
      rintro e w' ⟨rfl, rfl⟩
      exact ⟨rfl, Below.refl _ _⟩
    · obtain ⟨b1, o1, rfl, g1⟩ := C_cells h0 (by omega)
      obtain ⟨b2, o2, rfl, g2⟩ := C_cells h1 (by omega)
      refine (Try.slices_Equal_int b1 o1 l0.length c0 b2 o2 l1.length c1 l0 l1 w (Nat.le_refl _) (Nat.le_refl _) (by omega) (by omega) g1 g2).mono ?_
      rintro e w' ⟨rfl, q, rfl⟩
      rw [List.take_length, List.take_length]
      exact ⟨rfl, pw_below_drewN (Below.refl _ _) q⟩
  · have hne : (l0 == l1) = false := by
      rw [beq_eq_false_iff_ne]
      intro e
      exact hl (by rw [e])
    rw [hne]
    refine (Try.slices_Equal_int_lens A0 A1 l0.length c0 l1.length c1 w hl).mono ?_
    rintro e w' ⟨rfl, rfl⟩
    exact ⟨rfl, Below.refl _ _⟩
/-- The eight fields' values, in the order in which they are compared. -/
def vals8 (a1 a2 a3 a4 a5 a6 a7 a8 : Int) : List Int := [a4, a1, a3, a5, a6, a2, a7, a8]
theorem same_at (v v' : Value) (a1 a2 a3 a4 a5 a6 a7 a8 b1 b2 b3 b4 b5 b6 b7 b8 : Int) (j : Nat) (h : j < 8) : ∃ tag ix fv gv, (∀ w, (Instr.index 154 tagsV (.int .i64 (j : Int))).run Try.prog w = .ok (.int .u64 tag) w) ∧ (∀ b, fieldP b tag = some ⟨b, ix, none⟩) ∧
    (#[v, .int .i64 a1, .int .i64 a2, .int .i64 a3, .int .i64 a4, .int .i64 a5, .int .i64 a6, .int .i64 a7, .int .i64 a8] : Array Value)[ix]? = some (.int .i64 fv) ∧ (#[v', .int .i64 b1, .int .i64 b2, .int .i64 b3, .int .i64 b4, .int .i64 b5, .int .i64 b6, .int .i64 b7, .int .i64 b8] : Array Value)[ix]? = some (.int .i64 gv) ∧
    (vals8 a1 a2 a3 a4 a5 a6 a7 a8).take (j + 1) = (vals8 a1 a2 a3 a4 a5 a6 a7 a8).take j ++ [fv] ∧ (vals8 b1 b2 b3 b4 b5 b6 b7 b8).take (j + 1) = (vals8 b1 b2 b3 b4 b5 b6 b7 b8).take j ++ [gv] := by
  match j, h with
  | 0, _ => exact ⟨4, 4, a4, b4, ix0, fun _ => rfl, rfl, rfl, rfl, rfl⟩
  | 1, _ => exact ⟨5, 1, a1, b1, ix1, fun _ => rfl, rfl, rfl, rfl, rfl⟩
  | 2, _ => exact ⟨6, 3, a3, b3, ix2, fun _ => rfl, rfl, rfl, rfl, rfl⟩
  | 3, _ => exact ⟨7, 5, a5, b5, ix3, fun _ => rfl, rfl, rfl, rfl, rfl⟩
  | 4, _ => exact ⟨8, 6, a6, b6, ix4, fun _ => rfl, rfl, rfl, rfl, rfl⟩
  | 5, _ => exact ⟨10, 2, a2, b2, ix5, fun _ => rfl, rfl, rfl, rfl, rfl⟩
  | 6, _ => exact ⟨14, 7, a7, b7, ix6, fun _ => rfl, rfl, rfl, rfl, rfl⟩
  | 7, _ => exact ⟨1879047669, 8, a8, b8, ix7, fun _ => rfl, rfl, rfl, rfl, rfl⟩
theorem beq_snoc (x y : List Int) (a b : Int) (h : x.length = y.length) : ((x ++ [a]) == (y ++ [b])) = ((x == y) && (a == b)) := by
  rw [Bool.eq_iff_iff]
  simp only [beq_iff_eq, Bool.and_eq_true]
  constructor
  · intro e
    obtain ⟨e1, e2⟩ := List.append_inj e h
    exact ⟨e1, by simpa using e2⟩
  · rintro ⟨rfl, rfl⟩
    rfl
theorem field_at (g : Nat) {tag : Int} {ix : Nat} (h : ∀ b, fieldP b tag = some ⟨b, ix, none⟩) (w : World) : Calls Try.prog 88 #[.pointer (some ⟨g, 0, none⟩), .int .u64 tag] w fun e w' => e = .returned (.pointer (some ⟨g, ix, none⟩)) ∧ w' = w := by
  refine (field_calls g tag w).mono ?_
  rintro e w' ⟨rfl, rfl⟩
  rw [h g]
  exact ⟨rfl, rfl⟩
structure SameW (g2 g3 : Nat) (s2 s3 : Array Value) (w W : World) : Prop where
  k2 : W.heap[g2]? = some (.cells s2 54 (0, 0))
  k3 : W.heap[g3]? = some (.cells s3 54 (0, 0))
  bel : Below w.heap.size w W
theorem SameW.below {g2 g3 : Nat} {s2 s3 : Array Value} {w W W' : World} (h : SameW g2 g3 s2 s3 w W) (hb : Below W.heap.size W W') : SameW g2 g3 s2 s3 w W' :=
  ⟨blk_below h.k2 hb, blk_below h.k3 hb, h.bel.trans (hb.mono h.bel.size)⟩
set_option maxHeartbeats 4000000 in
set_option maxRecDepth 100000 in
theorem same_main (A0 : Option Addr) (c0 : Nat) (l0 : List Int) (a1 a2 a3 a4 a5 a6 a7 a8 : Int) (A1 : Option Addr) (c1 : Nat) (l1 : List Int) (b1 b2 b3 b4 b5 b6 b7 b8 : Int) (w : World)
    (h0 : Kd.C (Kd.int .i64) w A0 l0.length l0) (h1 : Kd.C (Kd.int .i64) w A1 l1.length l1) (n0 : l0.length ≤ 1000000) (n1 : l1.length ≤ 1000000) :
    Calls Try.prog 51 #[.agg #[.slice A0 l0.length c0, .int .i64 a1, .int .i64 a2, .int .i64 a3, .int .i64 a4, .int .i64 a5, .int .i64 a6, .int .i64 a7, .int .i64 a8], .agg #[.slice A1 l1.length c1, .int .i64 b1, .int .i64 b2, .int .i64 b3, .int .i64 b4, .int .i64 b5, .int .i64 b6, .int .i64 b7, .int .i64 b8]] w
      fun e w' => e = .returned (.bool ((l0 == l1) && (vals8 a1 a2 a3 a4 a5 a6 a7 a8 == vals8 b1 b2 b3 b4 b5 b6 b7 b8))) ∧ Below w.heap.size w w' := by
  have H0 := Aside0.mk h0
  have H1 := Aside0.mk h1
  have N0 := Aside0.mk n0
  have N1 := Aside0.mk n1
  clear h0 h1 n0 n1
  obtain ⟨s2, hs2⟩ : ∃ s : Array Value, s = #[.slice A0 l0.length c0, .int .i64 a1, .int .i64 a2, .int .i64 a3, .int .i64 a4, .int .i64 a5, .int .i64 a6, .int .i64 a7, .int .i64 a8] := ⟨_, rfl⟩
  obtain ⟨s3, hs3⟩ : ∃ s : Array Value, s = #[.slice A1 l1.length c1, .int .i64 b1, .int .i64 b2, .int .i64 b3, .int .i64 b4, .int .i64 b5, .int .i64 b6, .int .i64 b7, .int .i64 b8] := ⟨_, rfl⟩
  have HS2 := Aside0.mk hs2
  have HS3 := Aside0.mk hs3
  clear hs2 hs3
  go_enter Try.func51, Try.ntmps51
  go_wp2_with (first | ((with_reducible refine gate_dst (N := 2) rfl ?_); refine box_event ?hg (N := 2) ?hd (cs := #[.slice A0 l0.length c0, .int .i64 a1, .int .i64 a2, .int .i64 a3, .int .i64 a4, .int .i64 a5, .int .i64 a6, .int .i64 a7, .int .i64 a8]) (t := 54) ?hr ?_; (case hd => rfl); (case hg => rfl); (case hr => first | (go_simp; done) | (go_simp; rfl)); intro g2 hg2 w1 hbox hb1; rw [← HS2.out] at hbox; have BD := Aside0.mk hbox; have HW1 := Aside0.mk hb1; clear hbox hb1 hg2) | ((with_reducible refine gate_dst (N := 3) rfl ?_); refine box_event ?hg (N := 3) ?hd (cs := #[.slice A1 l1.length c1, .int .i64 b1, .int .i64 b2, .int .i64 b3, .int .i64 b4, .int .i64 b5, .int .i64 b6, .int .i64 b7, .int .i64 b8]) (t := 54) ?hr ?_; (case hd => rfl); (case hg => rfl); (case hr => first | (go_simp; done) | (go_simp; rfl)); intro g3 hg3 w2 hbox hb2; rw [← HS3.out] at hbox; have HO := Aside0.mk (show SameW g2 g3 s2 s3 w w2 from ⟨blk_below BD.out hb2, hbox, HW1.out.trans (hb2.mono HW1.out.size)⟩); clear hbox hb2 hg3 BD HW1; have hd0 := (blk_cell HO.out.k2 0).trans (show s2[0]? = some (Value.slice A0 l0.length c0) by rw [HS2.out]; rfl); have he0 := (blk_cell HO.out.k3 0).trans (show s3[0]? = some (Value.slice A1 l1.length c1) by rw [HS3.out]; rfl)))
  refine (eq_calls A0 A1 c0 c1 l0 l1 _ (Kd.C_below H0.out HO.out.bel) (Kd.C_below H1.out HO.out.bel) N0.out N1.out).mono ?_
  rintro e u1 ⟨rfl, hb1⟩
  have HO1 := Aside0.mk (HO.out.below hb1)
  clear hb1 HO hd0 he0
  go_wp2_with fail
  go_loopg [5, 14] 8 (fun kq v5 v14 wr => ∃ (j : Nat), v5 = .bool ((l0 == l1) && ((vals8 a1 a2 a3 a4 a5 a6 a7 a8).take j == (vals8 b1 b2 b3 b4 b5 b6 b7 b8).take j)) ∧ v14 = .int .i64 (j : Int) ∧ Aside0 (j + kq = 8) ∧ Aside0 (SameW g2 g3 s2 s3 w wr))
  case atStart => exact ⟨0, (by simp [vals8]), rfl, ⟨by omega⟩, HO1⟩
  case round =>
    clear HO1
    obtain ⟨j, rfl, rfl, HK, HO⟩ := hrel
    cases gk with
    | zero =>
      have hj : j = 8 := by have := HK.out; omega
      subst hj
      go_wp2
      go_ret
      exact ⟨rfl, HO.out.bel⟩
    | succ k1 =>
      obtain ⟨tag, ix, fv, gv, hix, hfp, hca, hcb, hta, htb⟩ := same_at (.slice A0 l0.length c0) (.slice A1 l1.length c1) a1 a2 a3 a4 a5 a6 a7 a8 b1 b2 b3 b4 b5 b6 b7 b8 j (by have := HK.out; omega)
      have hj8 : (j : Int) < 8 := by have := HK.out; omega
      have hnx : (((l0 == l1) && ((vals8 a1 a2 a3 a4 a5 a6 a7 a8).take j == (vals8 b1 b2 b3 b4 b5 b6 b7 b8).take j)) && (fv == gv)) = ((l0 == l1) && ((vals8 a1 a2 a3 a4 a5 a6 a7 a8).take (j + 1) == (vals8 b1 b2 b3 b4 b5 b6 b7 b8).take (j + 1))) := by
        rw [hta, htb, beq_snoc _ _ _ _ (by simp [vals8]), Bool.and_assoc]
      have HNX := Aside0.mk hnx
      have hld := (blk_cell HO.out.k2 ix).trans (show s2[ix]? = some (Value.int .i64 fv) by rw [HS2.out]; exact hca)
      have hle := (blk_cell HO.out.k3 ix).trans (show s3[ix]? = some (Value.int .i64 gv) by rw [HS3.out]; exact hcb)
      have HFP := Aside0.mk hfp
      obtain ⟨rb, hrb⟩ : ∃ r : Bool, ((l0 == l1) && ((vals8 a1 a2 a3 a4 a5 a6 a7 a8).take j == (vals8 b1 b2 b3 b4 b5 b6 b7 b8).take j)) = r := ⟨_, rfl⟩
      rw [hrb] at HNX
      rw [hrb]
      clear hrb hnx hta htb hca hcb hfp
      cases rb with
      | false =>
        have hr2 := HNX.out
        go_wp2_with fail
        go_quiet (fail)
        go_wp2
        go_roundg k1
        case measure => omega
        case rel => exact ⟨j + 1, (by rw [← hr2]; rfl), (by first | rfl | (have := HK.out; rw [w64 (by omega)]; rfl)), ⟨by have := HK.out; omega⟩, ⟨HO.out.below (pw_below_drewN (Below.refl _ _) nq)⟩⟩
      | true =>
        go_wp2_with fail
        go_quiet (refine Calls.quiet_of_same (field_at _ HFP.out _))
        have hr2 := HNX.out
        go_wp2
        go_roundg k1
        case measure => omega
        case rel => exact ⟨j + 1, (by rw [← hr2]; rfl), (by first | rfl | (have := HK.out; rw [w64 (by omega)]; rfl)), ⟨by have := HK.out; omega⟩, ⟨HO.out.below (pw_below_drewN (Below.refl _ _) nq)⟩⟩
theorem vals8_beq (a1 a2 a3 a4 a5 a6 a7 a8 b1 b2 b3 b4 b5 b6 b7 b8 : Int) : (vals8 a1 a2 a3 a4 a5 a6 a7 a8 == vals8 b1 b2 b3 b4 b5 b6 b7 b8) = decide (a1 = b1 ∧ a2 = b2 ∧ a3 = b3 ∧ a4 = b4 ∧ a5 = b5 ∧ a6 = b6 ∧ a7 = b7 ∧ a8 = b8) := by
  rw [Bool.eq_iff_iff]
  simp [vals8]
  constructor
  · rintro ⟨rfl, rfl, rfl, rfl, rfl, rfl, rfl, rfl⟩; simp
  · rintro ⟨rfl, rfl, rfl, rfl, rfl, rfl, rfl, rfl⟩; simp
def dynamic_Same.f (l0 : List Int) (a1 a2 a3 a4 a5 a6 a7 a8 : Int) (l1 : List Int) (b1 b2 b3 b4 b5 b6 b7 b8 : Int) : Option Bool :=
  if l0.length ≤ 1000000 ∧ l1.length ≤ 1000000 then some ((l0 == l1) && decide (a1 = b1 ∧ a2 = b2 ∧ a3 = b3 ∧ a4 = b4 ∧ a5 = b5 ∧ a6 = b6 ∧ a7 = b7 ∧ a8 = b8)) else none
theorem dynamic_Same.calls (A0 : Option Addr) (c0 : Nat) (l0 : List Int) (a1 a2 a3 a4 a5 a6 a7 a8 : Int) (A1 : Option Addr) (c1 : Nat) (l1 : List Int) (b1 b2 b3 b4 b5 b6 b7 b8 : Int) (r : Bool) (w : World)
    (hr0 : Kd.C (Kd.int .i64) w A0 l0.length l0) (hc0 : l0.length ≤ c0) (hr1 : Kd.C (Kd.int .i64) w A1 l1.length l1) (hc1 : l1.length ≤ c1) (h : dynamic_Same.f l0 a1 a2 a3 a4 a5 a6 a7 a8 l1 b1 b2 b3 b4 b5 b6 b7 b8 = some r) :
    Calls Try.prog 51 #[.agg #[.slice A0 l0.length c0, .int .i64 a1, .int .i64 a2, .int .i64 a3, .int .i64 a4, .int .i64 a5, .int .i64 a6, .int .i64 a7, .int .i64 a8], .agg #[.slice A1 l1.length c1, .int .i64 b1, .int .i64 b2, .int .i64 b3, .int .i64 b4, .int .i64 b5, .int .i64 b6, .int .i64 b7, .int .i64 b8]] w
      fun e w' => e = .returned (.bool r) ∧ Below w.heap.size w w' := by
  unfold dynamic_Same.f at h
  split at h
  · rename_i hc
    injection h with h
    subst h
    rw [← vals8_beq]
    exact same_main A0 c0 l0 a1 a2 a3 a4 a5 a6 a7 a8 A1 c1 l1 b1 b2 b3 b4 b5 b6 b7 b8 w hr0 hr1 hc.1 hc.2
  · cases h
end Go.Proofs.Ytafmeagfockdfaa.Fl
