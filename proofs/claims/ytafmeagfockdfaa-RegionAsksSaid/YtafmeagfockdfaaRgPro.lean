/-
  region.Add, Cut, Protect: called with a row that can be read, they return what the functions of RgT tell. (Written by mk_rgadd.py, a program of this session.)
-/
import Derived.Test.YtafmeagfockdfaaRgAdd
import Derived.Test.YtafmeagfockdfaaEv
namespace Go.Proofs.Ytafmeagfockdfaa.Rg
open Go.Proofs.Ytafmeagfockdfaa.Evs Go.RowKit Go.Proofs.YtafmeagfockdfaaW.PrintWords Go.Proofs.YtafmeagfockdfaaW.PrintLast Go.Proofs.YtafmeagfockdfaaW.PrintMore
set_option linter.unusedVariables false
set_option linter.unusedSimpArgs false


attribute [local go_sem] max2_int min2_int max_two min_two
/-- A field of a box, written. -/
theorem box_perm {w u8 u : World} {g : Nat} {x : S41} {p : Int} (hg : g = w.heap.size) (hb : Below w.heap.size w u8) (hy : u8.heap[g]? = some (.cells #[.int .i64 x.f0, .int .i64 x.f1, .int .i64 x.f2, .int .i64 x.f3, .int .i64 x.f4, .int .i64 x.f5] 41 (0, 0))) (hw : u = u8.setCell ⟨g, 2, none⟩ (.int .i64 p)) :
    Below w.heap.size w u ∧ u.heap[g]? = some (.cells #[.int .i64 x.f0, .int .i64 x.f1, .int .i64 p, .int .i64 x.f3, .int .i64 x.f4, .int .i64 x.f5] 41 (0, 0)) := by
  subst hw
  exact ⟨hb.setCell (p := ⟨g, 2, none⟩) (Nat.le_of_eq hg.symm) _, by simpa using blk_set hy 2 (.int .i64 p)⟩
theorem covers_ev (l : List S41) (a b : Int) (hl : l.length < 1000000) : Ev (fun k => region_Covers.f k l a b) (covT l a b) := by
  have h : ∀ (d i : Nat) (x : Int), l.length = i + d → Ev (fun k => region_Covers.l0 k b x l (l.length : Int) (i : Int)) (decide (b ≤ covL b (l.drop i) x)) := by
    intro d
    induction d with
    | zero =>
      intro i x h
      refine Ev.succ ?_
      simp only [region_Covers.l0]
      refine Ev.neg (by omega) ?_
      rw [List.drop_eq_nil_of_le (by omega)]
      exact Ev.now _
    | succ d ih =>
      intro i x h
      have hi : i < l.length := by omega
      have hr : rd_T41 l (i : Int) = l[i] := by simp [rd_T41, hi]
      refine Ev.succ ?_
      simp only [region_Covers.l0]
      refine Ev.pos (by omega) (Ev.pos (by omega) (Ev.pos (by omega) ?_))
      rw [List.drop_eq_getElem_cons hi, hr]
      unfold covL
      by_cases c1 : x ≥ b
      · rw [if_pos (.inl c1)]
        exact Ev.pos c1 (Ev.now _)
      · refine Ev.neg c1 ?_
        by_cases c2 : l[i].f0 > x
        · rw [if_pos (.inr c2)]
          exact Ev.pos c2 (Ev.now _)
        · rw [if_neg (by rintro (h | h) <;> contradiction)]
          refine Ev.neg c2 ?_
          have e : wrap64 ((i : Int) + 1) = ((i + 1 : Nat) : Int) := by unfold wrap64; omega
          rw [e]
          exact ih (i + 1) _ (by omega)
  exact h l.length 0 a (by omega)
def pro_.T9 : Bool × List (List Nat × List Nat) := (true, [([], []), ([0], [0]), ([], []), ([1, 2], [1, 2]), ([], []), ([4], [4]), ([], []), ([5, 6], [5, 6]), ([3, 0, 1, 2, 3], [3]), ([7, 8, 0, 1, 2, 3, 4, 5, 6, 7, 8], [7])])
def pro_.B9 : List Nat := [0, 1, 0, 7, 0, 16, 0, 112, 15, 511]
theorem pro_.tab9 : rtab .any (opsOf Try.f36 9) = pro_.T9 := by kernel_rfl
theorem pro_.bits9 : waitsOk pro_.T9.2 pro_.B9 = true := by kernel_rfl
set_option maxHeartbeats 3000000 in
set_option maxRecDepth 100000 in
theorem pro_main (A0 : Option Addr) (c0 : Nat) (l0 : List S41) (a1 a2 a3 : Int) (res : List S41) (w : World) (hr0 : Kd.C k41 w A0 l0.length l0) (hc0 : l0.length ≤ c0) (hlen : l0.length < 1000000) (h1 : ¬ a3 < 0) (h2 : ¬ a3 > 7) (h3 : ¬ a1 ≥ a2) (hcov : covT l0 a1 a2 = true) (hres : l0.foldl (proT a1 a2 a3) [] = res) :
    Calls Try.prog 36 #[.slice A0 l0.length c0, .int .i64 a1, .int .i64 a2, .int .i64 a3] w fun e w' => ∃ v0_ : Value, e = .returned (.tuple #[v0_, .int .i64 0]) ∧ Kd.V k41 41 w' w.heap.size (fun k_ => w.heap.size ≤ k_) v0_ res ∧ Below w.heap.size w w' := by
  obtain ⟨kc, hkc⟩ := (covers_ev l0 a1 a2 hlen).rounds
  rw [hcov] at hkc
  have HKC := Aside0.mk hkc
  have HR0 := Aside0.mk hr0
  have HC0 := Aside0.mk hc0
  have HLEN := Aside0.mk hlen
  have HRES := Aside0.mk hres
  have e1 : decide (a3 < 0) = false := decide_eq_false h1
  have e2 : decide (7 < a3) = false := decide_eq_false h2
  have e3 : decide (a2 ≤ a1) = false := decide_eq_false h3
  clear hr0 hlen hres hcov hkc hc0 h1 h2 h3
  go_enter Try.func36, Try.ntmps36
  go_wp2_with fail
  refine (region_Covers.calls kc _ _ _ _ _ _ _ HR0.out HC0.out HKC.out).mono ?_
  rintro e w2 ⟨rfl, hb2⟩
  have HW := Aside0.mk hb2
  clear hb2
  go_wp2_with fail
  refine (row_calls _).mono ?_
  rintro e w3 ⟨rfl, hw3⟩
  have ST := Aside0.mk (RowSt.new w2 w3 hw3)
  have hb3 : Below w2.heap.size w2 w3 := by subst hw3; exact below_alloc (Below.refl _ _) _
  have HB3 := Aside0.mk hb3
  have WB := Aside0.mk HW.out.size
  clear hw3 hb3
  generalize hbb : w2.heap.size = b at ST HB3 WB ⊢
  clear hbb
  go_wp2
  go_loopg [41] l0.length (fun kq v41 wr => ∃ (k : Nat) (out : List S41) (v : Value), v41 = .int .i64 (k : Int) ∧ Aside0 (k + kq = l0.length) ∧ Aside0 ((l0.drop k).foldl (proT a1 a2 a3) out = res) ∧ Aside0 (RowSt b wr v out) ∧ Aside0 (out.length ≤ 3 * k) ∧ Aside0 (Below b w2 wr))
  case atStart => exact ⟨0, [], _, rfl, ⟨by omega⟩, HRES, ST, ⟨by simp⟩, ⟨HB3.out⟩⟩
  case round =>
    clear ST HRES
    obtain ⟨k, out, v1, rfl, HK, HA, ST0, HL, HB0⟩ := hrel
    cases gk with
    | zero =>
      have hk0 : k = l0.length := by have := HK.out; omega
      subst hk0
      have dk : decide ((l0.length : Int) < (l0.length : Int)) = false := by simp
      have HA' := HA.out
      rw [List.drop_length] at HA'
      simp only [List.foldl_nil] at HA'
      clear HA
      have HA := Aside0.mk HA'
      clear HA'
      obtain ⟨A9, c9, e9⟩ := Kd.R_slice ST0.out.own
      subst e9
      have hs9 := (blk_cell ST0.out.bk 0).trans (rfl : _ = some (Value.slice A9 (out).length c9))
      go_wp2_with fail
      refine (told_calls b A9 (out).length c9 _ hs9 (Kd.R_reads' ST0.out.own).2.1).mono ?_
      rintro e u9 ⟨rfl, hb9⟩
      have HB9 := Aside0.mk hb9
      clear hb9
      go_wp2
      go_ret2
      rw [← HA.out]
      exact ⟨_, rfl, ST0.out.told HB9.out WB.out _, (HW.out.trans (HB0.out.mono WB.out)).trans (HB9.out.mono (HW.out.trans (HB0.out.mono WB.out)).size)⟩
    | succ k1 =>
      have hkl : k < l0.length := by have := HK.out; omega
      have hkm : (k : Int) < (l0.length : Int) := by omega
      have hm0 : l0.length ≤ 9223372036854775807 := by have := HLEN.out; omega
      have hd : l0.drop k = (rd_T41 l0 (k : Int)) :: l0.drop (k + 1) := by
        rw [List.drop_eq_getElem_cons hkl]; simp [rd_T41, hkl]
      obtain ⟨ad, ead, ha0, ha1, ha2, ha3, ha4, ha5⟩ := at_T41 (Kd.C_below HR0.out (HW.out.trans (HB0.out.mono WB.out))) (k : Int) (by omega) hkm
      cases ead
      simp only [Int.toNat_natCast] at ha0 ha1 ha2 ha3 ha4 ha5
      have p1 := eq_true (show (0 : Int) ≤ (k : Int) by omega)
      have q1 := eq_true hkm
      have dk : decide ((k : Int) < (l0.length : Int)) = true := decide_eq_true hkm
      have dk2 : decide (k < l0.length) = true := decide_eq_true hkl
      have hk1 : IntKind.i64.wrap ((k : Int) + 1) = ((k + 1 : Nat) : Int) := by rw [i64_w]; unfold wrap64; omega
      obtain ⟨A_, hA_⟩ : ∃ A_, mx ((rd_T41 l0 (k : Int))).f0 a1 = A_ := ⟨_, rfl⟩
      obtain ⟨B_, hB_⟩ : ∃ B_, mn ((rd_T41 l0 (k : Int))).f1 a2 = B_ := ⟨_, rfl⟩
      rw [hd] at HA
      have HA' := HA.out
      rw [List.foldl_cons] at HA'
      unfold proT at HA'
      rw [hA_, hB_] at HA'
      obtain ⟨y_, hy_⟩ : ∃ y_, partT (rd_T41 l0 (k : Int)) A_ B_ = y_ := ⟨_, rfl⟩
      have HYY := part_eq (rd_T41 l0 (k : Int)) A_ B_
      rw [hy_] at HYY HA'
      replace HYY := Aside0.mk HYY
      clear hy_
      have hmx : (if ((rd_T41 l0 (k : Int))).f0 < a1 then a1 else ((rd_T41 l0 (k : Int))).f0) = A_ := hA_
      have hmn : (if a2 < ((rd_T41 l0 (k : Int))).f1 then a2 else ((rd_T41 l0 (k : Int))).f1) = B_ := hB_
      clear HA hd hA_ hB_
      by_cases c1 : A_ ≥ B_
      · have c1b : decide (B_ ≤ A_) = true := decide_eq_true c1
        rw [if_pos c1] at HA'
        have HA := Aside0.mk HA'
        clear HA'
        go_wp2_with (first | ((with_reducible refine gate_dst (N := 13) rfl ?_); refine box_event ?hg (N := 13) ?hd (cs := #[.int .i64 0, .int .i64 0, .int .i64 0, .int .i64 0, .int .i64 0, .int .i64 0]) (t := 41) ?hr ?_; (case hd => rfl); (case hg => rfl); (case hr => first | (go_simp; done) | (go_simp; rfl)); intro gx hgx w8 hbox hb8; have hc80 := (blk_cell hbox 0).trans (rfl : _ = some (Value.int .i64 0)); have hc81 := (blk_cell hbox 1).trans (rfl : _ = some (Value.int .i64 0)); have hc82 := (blk_cell hbox 2).trans (rfl : _ = some (Value.int .i64 0)); have hc83 := (blk_cell hbox 3).trans (rfl : _ = some (Value.int .i64 0)); have hc84 := (blk_cell hbox 4).trans (rfl : _ = some (Value.int .i64 0)); have hc85 := (blk_cell hbox 5).trans (rfl : _ = some (Value.int .i64 0)); have hf80 := blk_frozen hbox 0; have hf81 := blk_frozen hbox 1; have hf82 := blk_frozen hbox 2; have hf83 := blk_frozen hbox 3; have hf84 := blk_frozen hbox 4; have hf85 := blk_frozen hbox 5; have HGX := Aside0.mk hgx; have HBX := Aside0.mk hbox; have HB8 := Aside0.mk hb8; clear hgx hbox hb8) | ((with_reducible refine gate_store (t := 41) (p := 13) rfl ?_); refine store_event (t := 41) (p := 13) (v := ?vo13) (w1 := ((((((w8.setCell ⟨gx, 0, none⟩ (.int .i64 (rd_T41 l0 (k : Int)).f0)).setCell ⟨gx, 1, none⟩ (.int .i64 (rd_T41 l0 (k : Int)).f1)).setCell ⟨gx, 2, none⟩ (.int .i64 (rd_T41 l0 (k : Int)).f2)).setCell ⟨gx, 3, none⟩ (.int .i64 (rd_T41 l0 (k : Int)).f3)).setCell ⟨gx, 4, none⟩ (.int .i64 (rd_T41 l0 (k : Int)).f4)).setCell ⟨gx, 5, none⟩ (.int .i64 (rd_T41 l0 (k : Int)).f5))) ?hg ?ho ?hn ?hr ?_; (case ho => rfl); (case hg => rfl); (case hn => rfl); (case hr => first | (go_simp; done) | (go_simp; rfl)); intro u1 hw9; obtain ⟨hb9, hx9⟩ := box_stored HGX.out HB8.out HBX.out hw9; have hgx := HGX.out; have ST1 := Aside0.mk (ST0.out.below hb9); have BX1 := Aside0.mk hx9; have GXB := Aside0.mk (show gx ≠ b by have := blk_lt ST0.out.bk; omega); have AX1 := Aside0.mk (ST0.out.apart (Nat.le_of_eq hgx.symm)); have HB1 := Aside0.mk (HB0.out.trans (hb9.mono (Nat.le_of_lt (blk_lt ST0.out.bk)))); clear hb9 hx9 hw9 hgx HGX HB8 HBX hc80 hc81 hc82 hc83 hc84 hc85 hf80 hf81 hf82 hf83 hf84 hf85; have hx0 := (blk_cell BX1.out 0).trans (rfl : _ = some (Value.int .i64 ((rd_T41 l0 (k : Int))).f0)); have hx1 := (blk_cell BX1.out 1).trans (rfl : _ = some (Value.int .i64 ((rd_T41 l0 (k : Int))).f1)); have hx2 := (blk_cell BX1.out 2).trans (rfl : _ = some (Value.int .i64 ((rd_T41 l0 (k : Int))).f2)); have hx3 := (blk_cell BX1.out 3).trans (rfl : _ = some (Value.int .i64 ((rd_T41 l0 (k : Int))).f3)); have hx4 := (blk_cell BX1.out 4).trans (rfl : _ = some (Value.int .i64 ((rd_T41 l0 (k : Int))).f4)); have hx5 := (blk_cell BX1.out 5).trans (rfl : _ = some (Value.int .i64 ((rd_T41 l0 (k : Int))).f5))))
        have hdr : Below u1.heap.size u1 u1.drew := (Below.refl _ _).drew
        have ST2 := Aside0.mk (ST1.out.below hdr)
        have BX2 := Aside0.mk (blk_below BX1.out hdr)
        have AX2 := AX1
        have HB2 := Aside0.mk (HB1.out.trans (hdr.mono (Nat.le_of_lt (blk_lt ST1.out.bk))))
        clear hdr
        clear hx0 hx1 hx2 hx3 hx4 hx5
        refine start_ (n := 10) (S := fun w' => w'.cell? ⟨gx, 0, none⟩ = some (.int .i64 ((rd_T41 l0 (k : Int))).f0) ∧ w'.cell? ⟨gx, 1, none⟩ = some (.int .i64 ((rd_T41 l0 (k : Int))).f1)) (ds := []) #[false, false, false, false, false, false, false, false, false, false] (by kernel_rfl) rfl rfl ⟨(blk_cell BX2.out 0).trans rfl, (blk_cell BX2.out 1).trans rfl⟩ (fun hHeld => ?_)
        generalize u1.drew = u2 at ST2 BX2 HB2 hHeld ⊢
        refine with_tabW pro_.tab9 pro_.bits9 (fun HT_ HW_ => ?_)
        refine pure_ (i := 0) (N := some 45) (v := ?_) (a' := ?_) #[true, false, false, false, false, false, false, false, false, false] rfl rfl (any_of HT_.out (by kernel_rfl)) (fun _ _ _ h => h) (Or.inl ⟨by rfl, ?_⟩) ?_ ?_
        rotate_left
        · intro w'
          go_simp
          with_reducible rfl
        rotate_left
        · simp only [Act.put, List.setIfInBounds_toArray, List.set_cons_zero, List.set_cons_succ, i64_w, i32_w]
          rfl
        refine pure_ (i := 2) (N := some 47) (v := ?_) (a' := ?_) #[true, false, true, false, false, false, false, false, false, false] rfl rfl (any_of HT_.out (by kernel_rfl)) (fun _ _ _ h => h) (Or.inl ⟨by rfl, ?_⟩) ?_ ?_
        rotate_left
        · intro w'
          go_simp
          with_reducible rfl
        rotate_left
        · simp only [Act.put, List.setIfInBounds_toArray, List.set_cons_zero, List.set_cons_succ, i64_w, i32_w]
          rfl
        refine pure_ (i := 4) (N := some 49) (v := ?_) (a' := ?_) #[true, false, true, false, true, false, false, false, false, false] rfl rfl (any_of HT_.out (by kernel_rfl)) (fun _ _ _ h => h) (Or.inl ⟨by rfl, ?_⟩) ?_ ?_
        rotate_left
        · intro w'
          go_simp
          with_reducible rfl
        rotate_left
        · simp only [Act.put, List.setIfInBounds_toArray, List.set_cons_zero, List.set_cons_succ, i64_w, i32_w]
          rfl
        refine pure_ (i := 6) (N := some 51) (v := ?_) (a' := ?_) #[true, false, true, false, true, false, true, false, false, false] rfl rfl (any_of HT_.out (by kernel_rfl)) (fun _ _ _ h => h) (Or.inl ⟨by rfl, ?_⟩) ?_ ?_
        rotate_left
        · intro w'
          go_simp
          with_reducible rfl
        rotate_left
        · simp only [Act.put, List.setIfInBounds_toArray, List.set_cons_zero, List.set_cons_succ, i64_w, i32_w]
          rfl
        refine take_ (i := 1) (N := some 46) (v := ?_) (a' := ?_) #[true, true, true, false, true, false, true, false, false, false] rfl rfl (take_ofW HT_.out HW_.out (by kernel_rfl)) (fun _ _ _ h => h) (Or.inl ⟨by rfl, ?_⟩) hHeld ?_ ?_
        rotate_left
        · rintro w' ⟨s0, s1⟩
          go_simp
          with_reducible rfl
        rotate_left
        · simp only [Act.put, List.setIfInBounds_toArray, List.set_cons_zero, List.set_cons_succ, i64_w, i32_w]
          rfl
        refine pure_ (i := 3) (N := some 48) (v := ?_) (a' := ?_) #[true, true, true, true, true, false, true, false, false, false] rfl rfl (any_of HT_.out (by kernel_rfl)) (fun _ _ _ h => h) (Or.inl ⟨by rfl, ?_⟩) ?_ ?_
        rotate_left
        · intro w'
          go_simp
          with_reducible rfl
        rotate_left
        · simp only [Act.put, List.setIfInBounds_toArray, List.set_cons_zero, List.set_cons_succ, i64_w, i32_w]
          rfl
        refine pure_ (i := 8) (N := some 14) (v := ?_) (a' := ?_) #[true, true, true, true, true, false, true, false, true, false] rfl rfl (any_of HT_.out (by kernel_rfl)) (fun _ _ _ h => h) (Or.inl ⟨by rfl, ?_⟩) ?_ ?_
        rotate_left
        · intro w'
          go_simp
          with_reducible rfl
        rotate_left
        · simp only [Act.put, List.setIfInBounds_toArray, List.set_cons_zero, List.set_cons_succ, i64_w, i32_w]
          rfl
        refine take_ (i := 5) (N := some 50) (v := ?_) (a' := ?_) #[true, true, true, true, true, true, true, false, true, false] rfl rfl (take_ofW HT_.out HW_.out (by kernel_rfl)) (fun _ _ _ h => h) (Or.inl ⟨by rfl, ?_⟩) hHeld ?_ ?_
        rotate_left
        · rintro w' ⟨s0, s1⟩
          go_simp
          with_reducible rfl
        rotate_left
        · simp only [Act.put, List.setIfInBounds_toArray, List.set_cons_zero, List.set_cons_succ, i64_w, i32_w]
          rfl
        refine pure_ (i := 7) (N := some 52) (v := ?_) (a' := ?_) #[true, true, true, true, true, true, true, true, true, false] rfl rfl (any_of HT_.out (by kernel_rfl)) (fun _ _ _ h => h) (Or.inl ⟨by rfl, ?_⟩) ?_ ?_
        rotate_left
        · intro w'
          go_simp
          with_reducible rfl
        rotate_left
        · simp only [Act.put, List.setIfInBounds_toArray, List.set_cons_zero, List.set_cons_succ, i64_w, i32_w]
          rfl
        refine pure_ (i := 9) (N := some 15) (v := ?_) (a' := ?_) #[true, true, true, true, true, true, true, true, true, true] rfl rfl (any_of HT_.out (by kernel_rfl)) (fun _ _ _ h => h) (Or.inl ⟨by rfl, ?_⟩) ?_ ?_
        rotate_left
        · intro w'
          go_simp
          with_reducible rfl
        rotate_left
        · simp only [Act.put, List.setIfInBounds_toArray, List.set_cons_zero, List.set_cons_succ, i64_w, i32_w]
          rfl
        refine done_ (done_of HT_.out (by kernel_rfl)) ?_
        
        have hx0 := (blk_cell BX2.out 0).trans (rfl : _ = some (Value.int .i64 ((rd_T41 l0 (k : Int))).f0))
        have hx1 := (blk_cell BX2.out 1).trans (rfl : _ = some (Value.int .i64 ((rd_T41 l0 (k : Int))).f1))
        have hx2 := (blk_cell BX2.out 2).trans (rfl : _ = some (Value.int .i64 ((rd_T41 l0 (k : Int))).f2))
        have hx3 := (blk_cell BX2.out 3).trans (rfl : _ = some (Value.int .i64 ((rd_T41 l0 (k : Int))).f3))
        have hx4 := (blk_cell BX2.out 4).trans (rfl : _ = some (Value.int .i64 ((rd_T41 l0 (k : Int))).f4))
        have hx5 := (blk_cell BX2.out 5).trans (rfl : _ = some (Value.int .i64 ((rd_T41 l0 (k : Int))).f5))
        go_wp2_with fail
        refine (put_calls (rd_T41 l0 (k : Int)) b out v1 _ ST2.out (by have := HL.out; have := HLEN.out; have := HK.out; have := putT_length out (rd_T41 l0 (k : Int)); have := putT_length out (partT (rd_T41 l0 (k : Int)) ((rd_T41 l0 (k : Int))).f0 A_); have := putT_length (putT out (partT (rd_T41 l0 (k : Int)) ((rd_T41 l0 (k : Int))).f0 A_)) (⟨y_.f0, y_.f1, a3, y_.f3, y_.f4, y_.f5⟩ : S41); omega)).mono ?_
        rintro e u3 ⟨rfl, v3, st3, pk3⟩
        have ST3 := Aside0.mk st3
        have HB3 := Aside0.mk (HB2.out.trans pk3.bel)
        have BX3 := Aside0.mk (pk3.box BX2.out GXB.out AX2.out)
        have AX3 := Aside0.mk (pk3.apart BX2.out AX2.out)
        clear st3 pk3
        clear hx0 hx1 hx2 hx3 hx4 hx5
        have hx0 := (blk_cell BX3.out 0).trans (rfl : _ = some (Value.int .i64 ((rd_T41 l0 (k : Int))).f0))
        have hx1 := (blk_cell BX3.out 1).trans (rfl : _ = some (Value.int .i64 ((rd_T41 l0 (k : Int))).f1))
        have hx2 := (blk_cell BX3.out 2).trans (rfl : _ = some (Value.int .i64 ((rd_T41 l0 (k : Int))).f2))
        have hx3 := (blk_cell BX3.out 3).trans (rfl : _ = some (Value.int .i64 ((rd_T41 l0 (k : Int))).f3))
        have hx4 := (blk_cell BX3.out 4).trans (rfl : _ = some (Value.int .i64 ((rd_T41 l0 (k : Int))).f4))
        have hx5 := (blk_cell BX3.out 5).trans (rfl : _ = some (Value.int .i64 ((rd_T41 l0 (k : Int))).f5))
        go_wp2
        go_roundg k1
        case measure => omega
        case rel => exact ⟨k + 1, (putT out (rd_T41 l0 (k : Int))), v3, (by first | rfl | simp), ⟨by have := HK.out; omega⟩, HA, ST3, ⟨by have := HL.out; have := putT_length out (rd_T41 l0 (k : Int)); have := putT_length out (partT (rd_T41 l0 (k : Int)) ((rd_T41 l0 (k : Int))).f0 A_); have := putT_length (putT out (partT (rd_T41 l0 (k : Int)) ((rd_T41 l0 (k : Int))).f0 A_)) (⟨y_.f0, y_.f1, a3, y_.f3, y_.f4, y_.f5⟩ : S41); have := putT_length (putT (putT out (partT (rd_T41 l0 (k : Int)) ((rd_T41 l0 (k : Int))).f0 A_)) (⟨y_.f0, y_.f1, a3, y_.f3, y_.f4, y_.f5⟩ : S41)) (partT (rd_T41 l0 (k : Int)) B_ ((rd_T41 l0 (k : Int))).f1); omega⟩, HB3⟩
      · have c1b : decide (B_ ≤ A_) = false := decide_eq_false c1
        rw [if_neg c1] at HA'
        have HA := Aside0.mk HA'
        clear HA'
        go_wp2_with (first | ((with_reducible refine gate_dst (N := 13) rfl ?_); refine box_event ?hg (N := 13) ?hd (cs := #[.int .i64 0, .int .i64 0, .int .i64 0, .int .i64 0, .int .i64 0, .int .i64 0]) (t := 41) ?hr ?_; (case hd => rfl); (case hg => rfl); (case hr => first | (go_simp; done) | (go_simp; rfl)); intro gx hgx w8 hbox hb8; have hc80 := (blk_cell hbox 0).trans (rfl : _ = some (Value.int .i64 0)); have hc81 := (blk_cell hbox 1).trans (rfl : _ = some (Value.int .i64 0)); have hc82 := (blk_cell hbox 2).trans (rfl : _ = some (Value.int .i64 0)); have hc83 := (blk_cell hbox 3).trans (rfl : _ = some (Value.int .i64 0)); have hc84 := (blk_cell hbox 4).trans (rfl : _ = some (Value.int .i64 0)); have hc85 := (blk_cell hbox 5).trans (rfl : _ = some (Value.int .i64 0)); have hf80 := blk_frozen hbox 0; have hf81 := blk_frozen hbox 1; have hf82 := blk_frozen hbox 2; have hf83 := blk_frozen hbox 3; have hf84 := blk_frozen hbox 4; have hf85 := blk_frozen hbox 5; have HGX := Aside0.mk hgx; have HBX := Aside0.mk hbox; have HB8 := Aside0.mk hb8; clear hgx hbox hb8) | ((with_reducible refine gate_store (t := 41) (p := 13) rfl ?_); refine store_event (t := 41) (p := 13) (v := ?vo13) (w1 := ((((((w8.setCell ⟨gx, 0, none⟩ (.int .i64 (rd_T41 l0 (k : Int)).f0)).setCell ⟨gx, 1, none⟩ (.int .i64 (rd_T41 l0 (k : Int)).f1)).setCell ⟨gx, 2, none⟩ (.int .i64 (rd_T41 l0 (k : Int)).f2)).setCell ⟨gx, 3, none⟩ (.int .i64 (rd_T41 l0 (k : Int)).f3)).setCell ⟨gx, 4, none⟩ (.int .i64 (rd_T41 l0 (k : Int)).f4)).setCell ⟨gx, 5, none⟩ (.int .i64 (rd_T41 l0 (k : Int)).f5))) ?hg ?ho ?hn ?hr ?_; (case ho => rfl); (case hg => rfl); (case hn => rfl); (case hr => first | (go_simp; done) | (go_simp; rfl)); intro u1 hw9; obtain ⟨hb9, hx9⟩ := box_stored HGX.out HB8.out HBX.out hw9; have hgx := HGX.out; have ST1 := Aside0.mk (ST0.out.below hb9); have BX1 := Aside0.mk hx9; have GXB := Aside0.mk (show gx ≠ b by have := blk_lt ST0.out.bk; omega); have AX1 := Aside0.mk (ST0.out.apart (Nat.le_of_eq hgx.symm)); have HB1 := Aside0.mk (HB0.out.trans (hb9.mono (Nat.le_of_lt (blk_lt ST0.out.bk)))); clear hb9 hx9 hw9 hgx HGX HB8 HBX hc80 hc81 hc82 hc83 hc84 hc85 hf80 hf81 hf82 hf83 hf84 hf85; have hx0 := (blk_cell BX1.out 0).trans (rfl : _ = some (Value.int .i64 ((rd_T41 l0 (k : Int))).f0)); have hx1 := (blk_cell BX1.out 1).trans (rfl : _ = some (Value.int .i64 ((rd_T41 l0 (k : Int))).f1)); have hx2 := (blk_cell BX1.out 2).trans (rfl : _ = some (Value.int .i64 ((rd_T41 l0 (k : Int))).f2)); have hx3 := (blk_cell BX1.out 3).trans (rfl : _ = some (Value.int .i64 ((rd_T41 l0 (k : Int))).f3)); have hx4 := (blk_cell BX1.out 4).trans (rfl : _ = some (Value.int .i64 ((rd_T41 l0 (k : Int))).f4)); have hx5 := (blk_cell BX1.out 5).trans (rfl : _ = some (Value.int .i64 ((rd_T41 l0 (k : Int))).f5))))
        have hdr : Below u1.heap.size u1 u1.drew := (Below.refl _ _).drew
        have ST2 := Aside0.mk (ST1.out.below hdr)
        have BX2 := Aside0.mk (blk_below BX1.out hdr)
        have AX2 := AX1
        have HB2 := Aside0.mk (HB1.out.trans (hdr.mono (Nat.le_of_lt (blk_lt ST1.out.bk))))
        clear hdr
        clear hx0 hx1 hx2 hx3 hx4 hx5
        refine start_ (n := 10) (S := fun w' => w'.cell? ⟨gx, 0, none⟩ = some (.int .i64 ((rd_T41 l0 (k : Int))).f0) ∧ w'.cell? ⟨gx, 1, none⟩ = some (.int .i64 ((rd_T41 l0 (k : Int))).f1)) (ds := []) #[false, false, false, false, false, false, false, false, false, false] (by kernel_rfl) rfl rfl ⟨(blk_cell BX2.out 0).trans rfl, (blk_cell BX2.out 1).trans rfl⟩ (fun hHeld => ?_)
        generalize u1.drew = u2 at ST2 BX2 HB2 hHeld ⊢
        refine with_tabW pro_.tab9 pro_.bits9 (fun HT_ HW_ => ?_)
        refine pure_ (i := 0) (N := some 45) (v := ?_) (a' := ?_) #[true, false, false, false, false, false, false, false, false, false] rfl rfl (any_of HT_.out (by kernel_rfl)) (fun _ _ _ h => h) (Or.inl ⟨by rfl, ?_⟩) ?_ ?_
        rotate_left
        · intro w'
          go_simp
          with_reducible rfl
        rotate_left
        · simp only [Act.put, List.setIfInBounds_toArray, List.set_cons_zero, List.set_cons_succ, i64_w, i32_w]
          rfl
        refine pure_ (i := 2) (N := some 47) (v := ?_) (a' := ?_) #[true, false, true, false, false, false, false, false, false, false] rfl rfl (any_of HT_.out (by kernel_rfl)) (fun _ _ _ h => h) (Or.inl ⟨by rfl, ?_⟩) ?_ ?_
        rotate_left
        · intro w'
          go_simp
          with_reducible rfl
        rotate_left
        · simp only [Act.put, List.setIfInBounds_toArray, List.set_cons_zero, List.set_cons_succ, i64_w, i32_w]
          rfl
        refine pure_ (i := 4) (N := some 49) (v := ?_) (a' := ?_) #[true, false, true, false, true, false, false, false, false, false] rfl rfl (any_of HT_.out (by kernel_rfl)) (fun _ _ _ h => h) (Or.inl ⟨by rfl, ?_⟩) ?_ ?_
        rotate_left
        · intro w'
          go_simp
          with_reducible rfl
        rotate_left
        · simp only [Act.put, List.setIfInBounds_toArray, List.set_cons_zero, List.set_cons_succ, i64_w, i32_w]
          rfl
        refine pure_ (i := 6) (N := some 51) (v := ?_) (a' := ?_) #[true, false, true, false, true, false, true, false, false, false] rfl rfl (any_of HT_.out (by kernel_rfl)) (fun _ _ _ h => h) (Or.inl ⟨by rfl, ?_⟩) ?_ ?_
        rotate_left
        · intro w'
          go_simp
          with_reducible rfl
        rotate_left
        · simp only [Act.put, List.setIfInBounds_toArray, List.set_cons_zero, List.set_cons_succ, i64_w, i32_w]
          rfl
        refine take_ (i := 1) (N := some 46) (v := ?_) (a' := ?_) #[true, true, true, false, true, false, true, false, false, false] rfl rfl (take_ofW HT_.out HW_.out (by kernel_rfl)) (fun _ _ _ h => h) (Or.inl ⟨by rfl, ?_⟩) hHeld ?_ ?_
        rotate_left
        · rintro w' ⟨s0, s1⟩
          go_simp
          with_reducible rfl
        rotate_left
        · simp only [Act.put, List.setIfInBounds_toArray, List.set_cons_zero, List.set_cons_succ, i64_w, i32_w]
          rfl
        refine pure_ (i := 3) (N := some 48) (v := ?_) (a' := ?_) #[true, true, true, true, true, false, true, false, false, false] rfl rfl (any_of HT_.out (by kernel_rfl)) (fun _ _ _ h => h) (Or.inl ⟨by rfl, ?_⟩) ?_ ?_
        rotate_left
        · intro w'
          go_simp
          with_reducible rfl
        rotate_left
        · simp only [Act.put, List.setIfInBounds_toArray, List.set_cons_zero, List.set_cons_succ, i64_w, i32_w]
          rfl
        refine pure_ (i := 8) (N := some 14) (v := ?_) (a' := ?_) #[true, true, true, true, true, false, true, false, true, false] rfl rfl (any_of HT_.out (by kernel_rfl)) (fun _ _ _ h => h) (Or.inl ⟨by rfl, ?_⟩) ?_ ?_
        rotate_left
        · intro w'
          go_simp
          with_reducible rfl
        rotate_left
        · simp only [Act.put, List.setIfInBounds_toArray, List.set_cons_zero, List.set_cons_succ, i64_w, i32_w]
          rfl
        refine take_ (i := 5) (N := some 50) (v := ?_) (a' := ?_) #[true, true, true, true, true, true, true, false, true, false] rfl rfl (take_ofW HT_.out HW_.out (by kernel_rfl)) (fun _ _ _ h => h) (Or.inl ⟨by rfl, ?_⟩) hHeld ?_ ?_
        rotate_left
        · rintro w' ⟨s0, s1⟩
          go_simp
          with_reducible rfl
        rotate_left
        · simp only [Act.put, List.setIfInBounds_toArray, List.set_cons_zero, List.set_cons_succ, i64_w, i32_w]
          rfl
        refine pure_ (i := 7) (N := some 52) (v := ?_) (a' := ?_) #[true, true, true, true, true, true, true, true, true, false] rfl rfl (any_of HT_.out (by kernel_rfl)) (fun _ _ _ h => h) (Or.inl ⟨by rfl, ?_⟩) ?_ ?_
        rotate_left
        · intro w'
          go_simp
          with_reducible rfl
        rotate_left
        · simp only [Act.put, List.setIfInBounds_toArray, List.set_cons_zero, List.set_cons_succ, i64_w, i32_w]
          rfl
        refine pure_ (i := 9) (N := some 15) (v := ?_) (a' := ?_) #[true, true, true, true, true, true, true, true, true, true] rfl rfl (any_of HT_.out (by kernel_rfl)) (fun _ _ _ h => h) (Or.inl ⟨by rfl, ?_⟩) ?_ ?_
        rotate_left
        · intro w'
          go_simp
          with_reducible rfl
        rotate_left
        · simp only [Act.put, List.setIfInBounds_toArray, List.set_cons_zero, List.set_cons_succ, i64_w, i32_w]
          rfl
        refine done_ (done_of HT_.out (by kernel_rfl)) ?_
        
        have hx0 := (blk_cell BX2.out 0).trans (rfl : _ = some (Value.int .i64 ((rd_T41 l0 (k : Int))).f0))
        have hx1 := (blk_cell BX2.out 1).trans (rfl : _ = some (Value.int .i64 ((rd_T41 l0 (k : Int))).f1))
        have hx2 := (blk_cell BX2.out 2).trans (rfl : _ = some (Value.int .i64 ((rd_T41 l0 (k : Int))).f2))
        have hx3 := (blk_cell BX2.out 3).trans (rfl : _ = some (Value.int .i64 ((rd_T41 l0 (k : Int))).f3))
        have hx4 := (blk_cell BX2.out 4).trans (rfl : _ = some (Value.int .i64 ((rd_T41 l0 (k : Int))).f4))
        have hx5 := (blk_cell BX2.out 5).trans (rfl : _ = some (Value.int .i64 ((rd_T41 l0 (k : Int))).f5))
        go_wp2_with fail
        refine (region_part.calls _ _ _ _ _ _ _ _ _ _ _ _ _ _ _ (part_eq (rd_T41 l0 (k : Int)) ((rd_T41 l0 (k : Int))).f0 A_)).mono ?_
        rintro e u3 ⟨rfl, hb3⟩
        have ST3 := Aside0.mk (ST2.out.below hb3)
        have HB3 := Aside0.mk (HB2.out.trans (hb3.mono (Nat.le_of_lt (blk_lt ST2.out.bk))))
        have BX3 := Aside0.mk (blk_below BX2.out hb3)
        have AX3 := AX2
        clear hb3
        clear hx0 hx1 hx2 hx3 hx4 hx5
        have hx0 := (blk_cell BX3.out 0).trans (rfl : _ = some (Value.int .i64 ((rd_T41 l0 (k : Int))).f0))
        have hx1 := (blk_cell BX3.out 1).trans (rfl : _ = some (Value.int .i64 ((rd_T41 l0 (k : Int))).f1))
        have hx2 := (blk_cell BX3.out 2).trans (rfl : _ = some (Value.int .i64 ((rd_T41 l0 (k : Int))).f2))
        have hx3 := (blk_cell BX3.out 3).trans (rfl : _ = some (Value.int .i64 ((rd_T41 l0 (k : Int))).f3))
        have hx4 := (blk_cell BX3.out 4).trans (rfl : _ = some (Value.int .i64 ((rd_T41 l0 (k : Int))).f4))
        have hx5 := (blk_cell BX3.out 5).trans (rfl : _ = some (Value.int .i64 ((rd_T41 l0 (k : Int))).f5))
        go_wp2_with fail
        refine (put_calls (partT (rd_T41 l0 (k : Int)) ((rd_T41 l0 (k : Int))).f0 A_) b out v1 _ ST3.out (by have := HL.out; have := HLEN.out; have := HK.out; have := putT_length out (rd_T41 l0 (k : Int)); have := putT_length out (partT (rd_T41 l0 (k : Int)) ((rd_T41 l0 (k : Int))).f0 A_); have := putT_length (putT out (partT (rd_T41 l0 (k : Int)) ((rd_T41 l0 (k : Int))).f0 A_)) (⟨y_.f0, y_.f1, a3, y_.f3, y_.f4, y_.f5⟩ : S41); omega)).mono ?_
        rintro e u4 ⟨rfl, v4, st4, pk4⟩
        have ST4 := Aside0.mk st4
        have HB4 := Aside0.mk (HB3.out.trans pk4.bel)
        have BX4 := Aside0.mk (pk4.box BX3.out GXB.out AX3.out)
        have AX4 := Aside0.mk (pk4.apart BX3.out AX3.out)
        clear st4 pk4
        clear hx0 hx1 hx2 hx3 hx4 hx5
        have hx0 := (blk_cell BX4.out 0).trans (rfl : _ = some (Value.int .i64 ((rd_T41 l0 (k : Int))).f0))
        have hx1 := (blk_cell BX4.out 1).trans (rfl : _ = some (Value.int .i64 ((rd_T41 l0 (k : Int))).f1))
        have hx2 := (blk_cell BX4.out 2).trans (rfl : _ = some (Value.int .i64 ((rd_T41 l0 (k : Int))).f2))
        have hx3 := (blk_cell BX4.out 3).trans (rfl : _ = some (Value.int .i64 ((rd_T41 l0 (k : Int))).f3))
        have hx4 := (blk_cell BX4.out 4).trans (rfl : _ = some (Value.int .i64 ((rd_T41 l0 (k : Int))).f4))
        have hx5 := (blk_cell BX4.out 5).trans (rfl : _ = some (Value.int .i64 ((rd_T41 l0 (k : Int))).f5))
        go_wp2_with (first | (go_at_call 87; refine (region_part.calls _ _ _ _ _ _ _ _ _ _ _ _ _ _ _ HYY.out).mono ?_; rintro e u5 ⟨rfl, hb5⟩; have ST5 := Aside0.mk (ST4.out.below hb5); have HB5 := Aside0.mk (HB4.out.trans (hb5.mono (Nat.le_of_lt (blk_lt ST4.out.bk)))); have BX5 := Aside0.mk (blk_below BX4.out hb5); have AX5 := AX4; clear hb5; clear hx0 hx1 hx2 hx3 hx4 hx5; have hx0 := (blk_cell BX5.out 0).trans (rfl : _ = some (Value.int .i64 ((rd_T41 l0 (k : Int))).f0)); have hx1 := (blk_cell BX5.out 1).trans (rfl : _ = some (Value.int .i64 ((rd_T41 l0 (k : Int))).f1)); have hx2 := (blk_cell BX5.out 2).trans (rfl : _ = some (Value.int .i64 ((rd_T41 l0 (k : Int))).f2)); have hx3 := (blk_cell BX5.out 3).trans (rfl : _ = some (Value.int .i64 ((rd_T41 l0 (k : Int))).f3)); have hx4 := (blk_cell BX5.out 4).trans (rfl : _ = some (Value.int .i64 ((rd_T41 l0 (k : Int))).f4)); have hx5 := (blk_cell BX5.out 5).trans (rfl : _ = some (Value.int .i64 ((rd_T41 l0 (k : Int))).f5))) | ((with_reducible refine gate_dst (N := 16) rfl ?_); refine box_event ?hg (N := 16) ?hd (cs := #[.int .i64 0, .int .i64 0, .int .i64 0, .int .i64 0, .int .i64 0, .int .i64 0]) (t := 41) ?hr ?_; (case hd => rfl); (case hg => rfl); (case hr => first | (go_simp; done) | (go_simp; rfl)); intro gy hgy w8 hbox hb8; have hc80 := (blk_cell hbox 0).trans (rfl : _ = some (Value.int .i64 0)); have hc81 := (blk_cell hbox 1).trans (rfl : _ = some (Value.int .i64 0)); have hc82 := (blk_cell hbox 2).trans (rfl : _ = some (Value.int .i64 0)); have hc83 := (blk_cell hbox 3).trans (rfl : _ = some (Value.int .i64 0)); have hc84 := (blk_cell hbox 4).trans (rfl : _ = some (Value.int .i64 0)); have hc85 := (blk_cell hbox 5).trans (rfl : _ = some (Value.int .i64 0)); have hf80 := blk_frozen hbox 0; have hf81 := blk_frozen hbox 1; have hf82 := blk_frozen hbox 2; have hf83 := blk_frozen hbox 3; have hf84 := blk_frozen hbox 4; have hf85 := blk_frozen hbox 5; have HGY := Aside0.mk hgy; have HBX := Aside0.mk hbox; have HB8 := Aside0.mk hb8; clear hgy hbox hb8) | ((with_reducible refine gate_store (t := 41) (p := 16) rfl ?_); refine store_event (t := 41) (p := 16) (v := ?vo16) (w1 := ((((((w8.setCell ⟨gy, 0, none⟩ (.int .i64 y_.f0)).setCell ⟨gy, 1, none⟩ (.int .i64 y_.f1)).setCell ⟨gy, 2, none⟩ (.int .i64 y_.f2)).setCell ⟨gy, 3, none⟩ (.int .i64 y_.f3)).setCell ⟨gy, 4, none⟩ (.int .i64 y_.f4)).setCell ⟨gy, 5, none⟩ (.int .i64 y_.f5))) ?hg ?ho ?hn ?hr ?_; (case ho => rfl); (case hg => rfl); (case hn => rfl); (case hr => first | (go_simp; done) | (go_simp; rfl)); intro u8 hw9; obtain ⟨hb9, hy9⟩ := box_stored HGY.out HB8.out HBX.out hw9; have hcy2 := (blk_cell hy9 2).trans (rfl : _ = some (Value.int .i64 y_.f2)); have hfy2 := blk_frozen hy9 2; have HB9 := Aside0.mk hb9; have HY9 := Aside0.mk hy9; clear hb9 hy9 hw9 HB8 HBX hc80 hc81 hc82 hc83 hc84 hc85 hf80 hf81 hf82 hf83 hf84 hf85) | ((with_reducible refine gate_store (t := 3) (p := 71) rfl ?_); refine store_event (t := 3) (p := 71) (v := ?vp71) (w1 := u8.setCell ⟨gy, 2, none⟩ (.int .i64 a3)) ?hg ?ho ?hn ?hr ?_; (case ho => rfl); (case hg => rfl); (case hn => rfl); (case hr => first | (go_simp; done) | (go_simp; rfl)); intro u6 hw9; obtain ⟨hb9, hy9⟩ := box_perm HGY.out HB9.out HY9.out hw9; have ST6 := Aside0.mk (ST5.out.below hb9); have BX6 := Aside0.mk (blk_below BX5.out hb9); have AX6 := AX5; have HB6 := Aside0.mk (HB5.out.trans (hb9.mono (Nat.le_of_lt (blk_lt ST5.out.bk)))); have hy0 := (blk_cell hy9 0).trans (rfl : _ = some (Value.int .i64 (⟨y_.f0, y_.f1, a3, y_.f3, y_.f4, y_.f5⟩ : S41).f0)); have hy1 := (blk_cell hy9 1).trans (rfl : _ = some (Value.int .i64 (⟨y_.f0, y_.f1, a3, y_.f3, y_.f4, y_.f5⟩ : S41).f1)); have hy2 := (blk_cell hy9 2).trans (rfl : _ = some (Value.int .i64 (⟨y_.f0, y_.f1, a3, y_.f3, y_.f4, y_.f5⟩ : S41).f2)); have hy3 := (blk_cell hy9 3).trans (rfl : _ = some (Value.int .i64 (⟨y_.f0, y_.f1, a3, y_.f3, y_.f4, y_.f5⟩ : S41).f3)); have hy4 := (blk_cell hy9 4).trans (rfl : _ = some (Value.int .i64 (⟨y_.f0, y_.f1, a3, y_.f3, y_.f4, y_.f5⟩ : S41).f4)); have hy5 := (blk_cell hy9 5).trans (rfl : _ = some (Value.int .i64 (⟨y_.f0, y_.f1, a3, y_.f3, y_.f4, y_.f5⟩ : S41).f5)); clear hw9 hb9 hy9 HGY HB9 HY9 hcy2 hfy2; clear hx0 hx1 hx2 hx3 hx4 hx5; have hx0 := (blk_cell BX6.out 0).trans (rfl : _ = some (Value.int .i64 ((rd_T41 l0 (k : Int))).f0)); have hx1 := (blk_cell BX6.out 1).trans (rfl : _ = some (Value.int .i64 ((rd_T41 l0 (k : Int))).f1)); have hx2 := (blk_cell BX6.out 2).trans (rfl : _ = some (Value.int .i64 ((rd_T41 l0 (k : Int))).f2)); have hx3 := (blk_cell BX6.out 3).trans (rfl : _ = some (Value.int .i64 ((rd_T41 l0 (k : Int))).f3)); have hx4 := (blk_cell BX6.out 4).trans (rfl : _ = some (Value.int .i64 ((rd_T41 l0 (k : Int))).f4)); have hx5 := (blk_cell BX6.out 5).trans (rfl : _ = some (Value.int .i64 ((rd_T41 l0 (k : Int))).f5))))
        refine (put_calls (⟨y_.f0, y_.f1, a3, y_.f3, y_.f4, y_.f5⟩ : S41) b (putT out (partT (rd_T41 l0 (k : Int)) ((rd_T41 l0 (k : Int))).f0 A_)) v4 _ ST6.out (by have := HL.out; have := HLEN.out; have := HK.out; have := putT_length out (rd_T41 l0 (k : Int)); have := putT_length out (partT (rd_T41 l0 (k : Int)) ((rd_T41 l0 (k : Int))).f0 A_); have := putT_length (putT out (partT (rd_T41 l0 (k : Int)) ((rd_T41 l0 (k : Int))).f0 A_)) (⟨y_.f0, y_.f1, a3, y_.f3, y_.f4, y_.f5⟩ : S41); omega)).mono ?_
        rintro e u7 ⟨rfl, v7, st7, pk7⟩
        have ST7 := Aside0.mk st7
        have HB7 := Aside0.mk (HB6.out.trans pk7.bel)
        have BX7 := Aside0.mk (pk7.box BX6.out GXB.out AX6.out)
        have AX7 := Aside0.mk (pk7.apart BX6.out AX6.out)
        clear st7 pk7
        clear hx0 hx1 hx2 hx3 hx4 hx5
        have hx0 := (blk_cell BX7.out 0).trans (rfl : _ = some (Value.int .i64 ((rd_T41 l0 (k : Int))).f0))
        have hx1 := (blk_cell BX7.out 1).trans (rfl : _ = some (Value.int .i64 ((rd_T41 l0 (k : Int))).f1))
        have hx2 := (blk_cell BX7.out 2).trans (rfl : _ = some (Value.int .i64 ((rd_T41 l0 (k : Int))).f2))
        have hx3 := (blk_cell BX7.out 3).trans (rfl : _ = some (Value.int .i64 ((rd_T41 l0 (k : Int))).f3))
        have hx4 := (blk_cell BX7.out 4).trans (rfl : _ = some (Value.int .i64 ((rd_T41 l0 (k : Int))).f4))
        have hx5 := (blk_cell BX7.out 5).trans (rfl : _ = some (Value.int .i64 ((rd_T41 l0 (k : Int))).f5))
        clear hy0 hy1 hy2 hy3 hy4 hy5
        go_wp2_with fail
        refine (region_part.calls _ _ _ _ _ _ _ _ _ _ _ _ _ _ _ (part_eq (rd_T41 l0 (k : Int)) B_ ((rd_T41 l0 (k : Int))).f1)).mono ?_
        rintro e u8 ⟨rfl, hb8⟩
        have ST8 := Aside0.mk (ST7.out.below hb8)
        have HB8 := Aside0.mk (HB7.out.trans (hb8.mono (Nat.le_of_lt (blk_lt ST7.out.bk))))
        have BX8 := Aside0.mk (blk_below BX7.out hb8)
        have AX8 := AX7
        clear hb8
        clear hx0 hx1 hx2 hx3 hx4 hx5
        have hx0 := (blk_cell BX8.out 0).trans (rfl : _ = some (Value.int .i64 ((rd_T41 l0 (k : Int))).f0))
        have hx1 := (blk_cell BX8.out 1).trans (rfl : _ = some (Value.int .i64 ((rd_T41 l0 (k : Int))).f1))
        have hx2 := (blk_cell BX8.out 2).trans (rfl : _ = some (Value.int .i64 ((rd_T41 l0 (k : Int))).f2))
        have hx3 := (blk_cell BX8.out 3).trans (rfl : _ = some (Value.int .i64 ((rd_T41 l0 (k : Int))).f3))
        have hx4 := (blk_cell BX8.out 4).trans (rfl : _ = some (Value.int .i64 ((rd_T41 l0 (k : Int))).f4))
        have hx5 := (blk_cell BX8.out 5).trans (rfl : _ = some (Value.int .i64 ((rd_T41 l0 (k : Int))).f5))
        go_wp2_with fail
        refine (put_calls (partT (rd_T41 l0 (k : Int)) B_ ((rd_T41 l0 (k : Int))).f1) b (putT (putT out (partT (rd_T41 l0 (k : Int)) ((rd_T41 l0 (k : Int))).f0 A_)) (⟨y_.f0, y_.f1, a3, y_.f3, y_.f4, y_.f5⟩ : S41)) v7 _ ST8.out (by have := HL.out; have := HLEN.out; have := HK.out; have := putT_length out (rd_T41 l0 (k : Int)); have := putT_length out (partT (rd_T41 l0 (k : Int)) ((rd_T41 l0 (k : Int))).f0 A_); have := putT_length (putT out (partT (rd_T41 l0 (k : Int)) ((rd_T41 l0 (k : Int))).f0 A_)) (⟨y_.f0, y_.f1, a3, y_.f3, y_.f4, y_.f5⟩ : S41); omega)).mono ?_
        rintro e u9 ⟨rfl, v9, st9, pk9⟩
        have ST9 := Aside0.mk st9
        have HB9 := Aside0.mk (HB8.out.trans pk9.bel)
        have BX9 := Aside0.mk (pk9.box BX8.out GXB.out AX8.out)
        have AX9 := Aside0.mk (pk9.apart BX8.out AX8.out)
        clear st9 pk9
        clear hx0 hx1 hx2 hx3 hx4 hx5
        have hx0 := (blk_cell BX9.out 0).trans (rfl : _ = some (Value.int .i64 ((rd_T41 l0 (k : Int))).f0))
        have hx1 := (blk_cell BX9.out 1).trans (rfl : _ = some (Value.int .i64 ((rd_T41 l0 (k : Int))).f1))
        have hx2 := (blk_cell BX9.out 2).trans (rfl : _ = some (Value.int .i64 ((rd_T41 l0 (k : Int))).f2))
        have hx3 := (blk_cell BX9.out 3).trans (rfl : _ = some (Value.int .i64 ((rd_T41 l0 (k : Int))).f3))
        have hx4 := (blk_cell BX9.out 4).trans (rfl : _ = some (Value.int .i64 ((rd_T41 l0 (k : Int))).f4))
        have hx5 := (blk_cell BX9.out 5).trans (rfl : _ = some (Value.int .i64 ((rd_T41 l0 (k : Int))).f5))
        go_wp2
        go_roundg k1
        case measure => omega
        case rel => exact ⟨k + 1, (putT (putT (putT out (partT (rd_T41 l0 (k : Int)) ((rd_T41 l0 (k : Int))).f0 A_)) (⟨y_.f0, y_.f1, a3, y_.f3, y_.f4, y_.f5⟩ : S41)) (partT (rd_T41 l0 (k : Int)) B_ ((rd_T41 l0 (k : Int))).f1)), v9, (by first | rfl | simp), ⟨by have := HK.out; omega⟩, HA, ST9, ⟨by have := HL.out; have := putT_length out (rd_T41 l0 (k : Int)); have := putT_length out (partT (rd_T41 l0 (k : Int)) ((rd_T41 l0 (k : Int))).f0 A_); have := putT_length (putT out (partT (rd_T41 l0 (k : Int)) ((rd_T41 l0 (k : Int))).f0 A_)) (⟨y_.f0, y_.f1, a3, y_.f3, y_.f4, y_.f5⟩ : S41); have := putT_length (putT (putT out (partT (rd_T41 l0 (k : Int)) ((rd_T41 l0 (k : Int))).f0 A_)) (⟨y_.f0, y_.f1, a3, y_.f3, y_.f4, y_.f5⟩ : S41)) (partT (rd_T41 l0 (k : Int)) B_ ((rd_T41 l0 (k : Int))).f1); omega⟩, HB9⟩
end Go.Proofs.Ytafmeagfockdfaa.Rg
