/-
  region.Add, Cut, Protect: called with a row that can be read, they return what the functions of RgT tell. (Written by mk_rgadd.py, a program of this session.)
-/
import Derived.Test.YtafmeagfockdfaaRgRow
namespace Go.Proofs.Ytafmeagfockdfaa.Rg
open Go.RowKit Go.Proofs.YtafmeagfockdfaaW.PrintWords Go.Proofs.YtafmeagfockdfaaW.PrintLast Go.Proofs.YtafmeagfockdfaaW.PrintMore
set_option linter.unusedVariables false
set_option linter.unusedSimpArgs false

/-- put, called. -/
theorem put_calls (r : S41) (b : Nat) (xs : List S41) (v : Value) (w : World) (h : RowSt b w v xs) (hl : xs.length < 10000000) :
    Calls Try.prog 111 #[.agg #[.int .i64 r.f0, .int .i64 r.f1, .int .i64 r.f2, .int .i64 r.f3, .int .i64 r.f4, .int .i64 r.f5], .pointer (some ⟨b, 0, none⟩)] w fun e w' => e = .returned (.tuple #[]) ∧ ∃ v', RowSt b w' v' (putT xs r) ∧ PutK b v w w' v' := by
  by_cases h1 : r.f0 ≥ r.f1
  · refine (put_skip r b xs v w h h1).mono ?_
    rintro e w' ⟨rfl, hb⟩
    refine ⟨rfl, v, ?_, PutK.of_below (Nat.le_of_lt (blk_lt h.bk)) hb⟩
    unfold putT
    rw [if_pos h1]
    exact ⟨blk_below h.bk hb, Kd.R_below h.own hb⟩
  · by_cases h0 : 0 < xs.length
    · exact put_more r b xs v w h hl h0 h1
    · obtain rfl := List.eq_nil_of_length_eq_zero (by omega : xs.length = 0)
      refine (put_first r b v w h h1).mono ?_
      rintro e w' ⟨rfl, v', h2, h3⟩
      refine ⟨rfl, v', ?_, h3⟩
      unfold putT
      rw [if_neg h1, if_neg (fun h => h0 h.1)]
      exact h2
theorem RowSt.below {b : Nat} {v : Value} {xs : List S41} {w w' : World} (h : RowSt b w v xs) (hb : Below w.heap.size w w') : RowSt b w' v xs := ⟨blk_below h.bk hb, Kd.R_below h.own hb⟩
theorem RowSt.new (w w' : World) (h : w.alloc (.cells #[.slice none 0 0] 43) = w') : RowSt w.heap.size w' (.slice none 0 0) [] := by
  subst h
  exact ⟨by simpa using blk_new w (.cells #[.slice none 0 0] 43), Kd.R_nil _ _ _ _ _⟩
/-- A box that is none of the row's. -/
theorem PutK.box {b g : Nat} {v v' : Value} {W W' : World} {o : Obj} (h : PutK b v W W' v') (ho : W.heap[g]? = some o) (hg : g ≠ b) (hn : some g ≠ v.ownBlock) : W'.heap[g]? = some o := (h.keep g (blk_lt ho) hg hn).trans ho
theorem PutK.apart {b g : Nat} {v v' : Value} {W W' : World} {o : Obj} (h : PutK b v W W' v') (ho : W.heap[g]? = some o) (hn : some g ≠ v.ownBlock) : some g ≠ v'.ownBlock := by
  rcases h.own with e | ⟨q, e, hq⟩
  · rw [e]; exact hn
  · rw [e]; intro he; injection he with he; have := blk_lt ho; omega
theorem RowSt.apart {b g : Nat} {v : Value} {xs : List S41} {w : World} (h : RowSt b w v xs) (hg : w.heap.size ≤ g) : some g ≠ v.ownBlock := fun e => by
  have := (Kd.R_bound h.own).1 g e.symm
  have := this.2.2.1
  omega
theorem RowSt.low {b g : Nat} {v : Value} {xs : List S41} {w : World} (h : RowSt b w v xs) (hg : g < b) : some g ≠ v.ownBlock := fun e => by
  have := (Kd.R_bound h.own).1 g e.symm
  have := this.2.1
  omega
/-- told's slice. -/
theorem RowSt.told {b B : Nat} {A : Option Addr} {c : Nat} {out : List S41} {w w' : World} (h : RowSt b w (.slice A out.length c) out) (hb : Below w.heap.size w w') (hB : B ≤ b) (base : Nat) : Kd.V k41 41 w' base (fun k_ => B ≤ k_) (.slice A out.length out.length) out :=
  Kd.V_mk (Nat.le_refl _) (fun W' hW => by
    have h1 := Kd.R_mono (Kd.R_bound (Kd.R_below h.own hb)) (ok' := fun k => B ≤ k) (fun k hk => Nat.le_trans hB hk.2.1)
    exact (Kd.R_reads' (Kd.R_step h1 hW)).2.2)
/-- A region boxed, cell by cell. -/
theorem box_stored {w w8 w9 : World} {g : Nat} {x : S41} (hg : g = w.heap.size) (hb : Below w.heap.size w w8) (hbox : w8.heap[g]? = some (.cells #[.int .i64 0, .int .i64 0, .int .i64 0, .int .i64 0, .int .i64 0, .int .i64 0] 41 (0, 0)))
    (hw : w9 = ((((((w8.setCell ⟨g, 0, none⟩ (.int .i64 x.f0)).setCell ⟨g, 1, none⟩ (.int .i64 x.f1)).setCell ⟨g, 2, none⟩ (.int .i64 x.f2)).setCell ⟨g, 3, none⟩ (.int .i64 x.f3)).setCell ⟨g, 4, none⟩ (.int .i64 x.f4)).setCell ⟨g, 5, none⟩ (.int .i64 x.f5))) : Below w.heap.size w w9 ∧ w9.heap[g]? = some (.cells #[.int .i64 x.f0, .int .i64 x.f1, .int .i64 x.f2, .int .i64 x.f3, .int .i64 x.f4, .int .i64 x.f5] 41 (0, 0)) := by
  subst hw
  refine ⟨?_, by simpa using blk_set (blk_set (blk_set (blk_set (blk_set (blk_set hbox 0 (.int .i64 x.f0)) 1 (.int .i64 x.f1)) 2 (.int .i64 x.f2)) 3 (.int .i64 x.f3)) 4 (.int .i64 x.f4)) 5 (.int .i64 x.f5)⟩
  have hle : w.heap.size ≤ g := Nat.le_of_eq hg.symm
  exact (((((hb.setCell (p := ⟨g, 0, none⟩) hle _).setCell (p := ⟨g, 1, none⟩) hle _).setCell (p := ⟨g, 2, none⟩) hle _).setCell (p := ⟨g, 3, none⟩) hle _).setCell (p := ⟨g, 4, none⟩) hle _).setCell (p := ⟨g, 5, none⟩) hle _

set_option maxHeartbeats 8000000 in
set_option maxRecDepth 100000 in
theorem add_main (A0 : Option Addr) (c0 : Nat) (l0 : List S41) (r : S41) (res : Option (List S41)) (w : World) (hr0 : Kd.C k41 w A0 l0.length l0) (hlen : l0.length < 1000000) (hm : mayT r = true) (hres : addL r l0 false [] = res) :
    Calls Try.prog 24 #[.slice A0 l0.length c0, .agg #[.int .i64 r.f0, .int .i64 r.f1, .int .i64 r.f2, .int .i64 r.f3, .int .i64 r.f4, .int .i64 r.f5]] w fun e w' => ∃ v0_ : Value, e = .returned (.tuple #[v0_, .int .i64 (addR res).2]) ∧ Kd.V k41 41 w' w.heap.size (fun k_ => w.heap.size ≤ k_) v0_ (addR res).1 ∧ Below w.heap.size w w' := by
  have HR0 := Aside0.mk hr0
  have HLEN := Aside0.mk hlen
  have HRES := Aside0.mk hres
  have HM := Aside0.mk ((may_eq 0 r).trans (congrArg some hm))
  clear hr0 hlen hres hm
  go_enter Try.func24, Try.ntmps24
  go_wp2_with (first | ((with_reducible refine gate_dst (N := 3) rfl ?_); refine box_event ?hg (N := 3) ?hd (cs := #[.int .i64 r.f0, .int .i64 r.f1, .int .i64 r.f2, .int .i64 r.f3, .int .i64 r.f4, .int .i64 r.f5]) (t := 41) ?hr ?_; (case hd => rfl); (case hg => rfl); (case hr => first | (go_simp; done) | (go_simp; rfl)); intro gr hgr w1 hbox hb1; have BR := Aside0.mk hbox; have HW := Aside0.mk hb1; have GR := Aside0.mk hgr; clear hbox hb1 hgr; have hr0 := (blk_cell BR.out 0).trans (rfl : _ = some (Value.int .i64 (r).f0)); have hr1 := (blk_cell BR.out 1).trans (rfl : _ = some (Value.int .i64 (r).f1)); have hr2 := (blk_cell BR.out 2).trans (rfl : _ = some (Value.int .i64 (r).f2)); have hr3 := (blk_cell BR.out 3).trans (rfl : _ = some (Value.int .i64 (r).f3)); have hr4 := (blk_cell BR.out 4).trans (rfl : _ = some (Value.int .i64 (r).f4)); have hr5 := (blk_cell BR.out 5).trans (rfl : _ = some (Value.int .i64 (r).f5))))
  refine (region_may.calls 1 _ _ _ _ _ _ _ _ HM.out).mono ?_
  rintro e w2 ⟨rfl, hb2⟩
  have n0_ := Aside0.mk (blk_below BR.out hb2)
  have n1_ := Aside0.mk (HW.out.trans (hb2.mono HW.out.size))
  have GRB := Aside0.mk (Nat.lt_of_lt_of_le (blk_lt BR.out) hb2.size)
  clear BR HW hb2
  have BR := n0_
  have HW := n1_
  clear n0_ n1_
  clear hr0 hr1 hr2 hr3 hr4 hr5
  have hr0 := (blk_cell BR.out 0).trans (rfl : _ = some (Value.int .i64 (r).f0))
  have hr1 := (blk_cell BR.out 1).trans (rfl : _ = some (Value.int .i64 (r).f1))
  have hr2 := (blk_cell BR.out 2).trans (rfl : _ = some (Value.int .i64 (r).f2))
  have hr3 := (blk_cell BR.out 3).trans (rfl : _ = some (Value.int .i64 (r).f3))
  have hr4 := (blk_cell BR.out 4).trans (rfl : _ = some (Value.int .i64 (r).f4))
  have hr5 := (blk_cell BR.out 5).trans (rfl : _ = some (Value.int .i64 (r).f5))
  go_wp2_with fail
  refine (row_calls _).mono ?_
  rintro e w3 ⟨rfl, hw3⟩
  have ST := Aside0.mk (RowSt.new w2 w3 hw3)
  have hb3 : Below w2.heap.size w2 w3 := by subst hw3; exact below_alloc (Below.refl _ _) _
  have HB3 := Aside0.mk hb3
  have WB := Aside0.mk HW.out.size
  clear hw3 hb3
  clear hr0 hr1 hr2 hr3 hr4 hr5
  generalize hbb : w2.heap.size = b at GRB ST HB3 WB ⊢
  go_wp2
  go_loopg [8, 20] l0.length (fun kq v8 v20 wr => ∃ (k : Nat) (ad : Bool) (out : List S41) (v : Value), v8 = .bool ad ∧ v20 = .int .i64 (k : Int) ∧ Aside0 (k + kq = l0.length) ∧ Aside0 (addL r (l0.drop k) ad out = res) ∧ Aside0 (RowSt b wr v out) ∧ Aside0 (out.length ≤ 2 * k) ∧ Aside0 (Below b w2 wr))
  case atStart => exact ⟨0, false, [], _, rfl, rfl, ⟨by omega⟩, HRES, ST, ⟨by simp⟩, ⟨HB3.out⟩⟩
  case round =>
    clear ST HRES
    obtain ⟨k, ad_, out, v1, rfl, rfl, HK, HA, ST0, HL, HB0⟩ := hrel
    have BR0 := Aside0.mk ((HB0.out.block gr GRB.out).trans BR.out)
    cases gk with
    | zero =>
      have hk0 : k = l0.length := by have := HK.out; omega
      subst hk0
      have dk : decide ((l0.length : Int) < (l0.length : Int)) = false := by simp
      have HA' := HA.out
      rw [List.drop_length] at HA'
      simp only [addL] at HA'
      clear HA
      cases ad_ with
      | true =>
        have HA := Aside0.mk HA'
        clear HA'
        obtain ⟨A9, c9, e9⟩ := Kd.R_slice ST0.out.own
        subst e9
        have hs9 := (blk_cell ST0.out.bk 0).trans (rfl : _ = some (Value.slice A9 (out).length c9))
        go_wp2_with fail
        refine (told_calls b A9 (out).length c9 _ hs9 (Kd.R_reads' ST0.out.own).2.1).mono ?_
        rintro e u9 ⟨rfl, hb9⟩
        have HB9 := Aside0.mk hb9
        clear hb9
        go_wp2
        go_ret2
        rw [← HA.out]
        exact ⟨_, rfl, ST0.out.told HB9.out WB.out _, (HW.out.trans (HB0.out.mono WB.out)).trans (HB9.out.mono (HW.out.trans (HB0.out.mono WB.out)).size)⟩
      | false =>
        have HA := Aside0.mk HA'
        clear HA'
        have hr0 := (blk_cell BR0.out 0).trans (rfl : _ = some (Value.int .i64 (r).f0))
        have hr1 := (blk_cell BR0.out 1).trans (rfl : _ = some (Value.int .i64 (r).f1))
        have hr2 := (blk_cell BR0.out 2).trans (rfl : _ = some (Value.int .i64 (r).f2))
        have hr3 := (blk_cell BR0.out 3).trans (rfl : _ = some (Value.int .i64 (r).f3))
        have hr4 := (blk_cell BR0.out 4).trans (rfl : _ = some (Value.int .i64 (r).f4))
        have hr5 := (blk_cell BR0.out 5).trans (rfl : _ = some (Value.int .i64 (r).f5))
        go_wp2_with fail
        refine (put_calls r b out v1 _ ST0.out (by have := HL.out; have := HLEN.out; have := HK.out; omega)).mono ?_
        rintro e u2 ⟨rfl, v2, st2, pk2⟩
        have ST2 := Aside0.mk st2
        have HB2 := Aside0.mk (HB0.out.trans pk2.bel)
        have BR2 := Aside0.mk ((pk2.bel.block gr GRB.out).trans BR0.out)
        clear st2 pk2
        clear hr0 hr1 hr2 hr3 hr4 hr5
        have hr0 := (blk_cell BR2.out 0).trans (rfl : _ = some (Value.int .i64 (r).f0))
        have hr1 := (blk_cell BR2.out 1).trans (rfl : _ = some (Value.int .i64 (r).f1))
        have hr2 := (blk_cell BR2.out 2).trans (rfl : _ = some (Value.int .i64 (r).f2))
        have hr3 := (blk_cell BR2.out 3).trans (rfl : _ = some (Value.int .i64 (r).f3))
        have hr4 := (blk_cell BR2.out 4).trans (rfl : _ = some (Value.int .i64 (r).f4))
        have hr5 := (blk_cell BR2.out 5).trans (rfl : _ = some (Value.int .i64 (r).f5))
        obtain ⟨A9, c9, e9⟩ := Kd.R_slice ST2.out.own
        subst e9
        have hs9 := (blk_cell ST2.out.bk 0).trans (rfl : _ = some (Value.slice A9 (putT out r).length c9))
        go_wp2_with fail
        refine (told_calls b A9 (putT out r).length c9 _ hs9 (Kd.R_reads' ST2.out.own).2.1).mono ?_
        rintro e u9 ⟨rfl, hb9⟩
        have HB9 := Aside0.mk hb9
        clear hb9
        go_wp2
        go_ret2
        rw [← HA.out]
        exact ⟨_, rfl, ST2.out.told HB9.out WB.out _, (HW.out.trans (HB2.out.mono WB.out)).trans (HB9.out.mono (HW.out.trans (HB2.out.mono WB.out)).size)⟩
    | succ k1 =>
      have hkl : k < l0.length := by have := HK.out; omega
      have hkm : (k : Int) < (l0.length : Int) := by omega
      have hm0 : l0.length ≤ 9223372036854775807 := by have := HLEN.out; omega
      have hd : l0.drop k = (rd_T41 l0 (k : Int)) :: l0.drop (k + 1) := by
        rw [List.drop_eq_getElem_cons hkl]; simp [rd_T41, hkl]
      obtain ⟨ad, ead, ha0, ha1, ha2, ha3, ha4, ha5⟩ := at_T41 (Kd.C_below HR0.out (HW.out.trans (HB0.out.mono WB.out))) (k : Int) (by omega) hkm
      cases ead
      simp only [Int.toNat_natCast] at ha0 ha1 ha2 ha3 ha4 ha5
      have p1 := eq_true (show (0 : Int) ≤ (k : Int) by omega)
      have q1 := eq_true hkm
      have dk : decide ((k : Int) < (l0.length : Int)) = true := decide_eq_true hkm
      have dk2 : decide (k < l0.length) = true := decide_eq_true hkl
      have hk1 : IntKind.i64.wrap ((k : Int) + 1) = ((k + 1 : Nat) : Int) := by rw [i64_w]; unfold wrap64; omega
      have hr0 := (blk_cell BR0.out 0).trans (rfl : _ = some (Value.int .i64 (r).f0))
      have hr1 := (blk_cell BR0.out 1).trans (rfl : _ = some (Value.int .i64 (r).f1))
      have hr2 := (blk_cell BR0.out 2).trans (rfl : _ = some (Value.int .i64 (r).f2))
      have hr3 := (blk_cell BR0.out 3).trans (rfl : _ = some (Value.int .i64 (r).f3))
      have hr4 := (blk_cell BR0.out 4).trans (rfl : _ = some (Value.int .i64 (r).f4))
      have hr5 := (blk_cell BR0.out 5).trans (rfl : _ = some (Value.int .i64 (r).f5))
      rw [hd] at HA
      have HA' := HA.out
      simp only [addL] at HA'
      clear HA hd
      by_cases c1 : (rd_T41 l0 (k : Int)).f0 < r.f1
      · have c1b : decide ((rd_T41 l0 (k : Int)).f0 < r.f1) = true := decide_eq_true c1
        have c1c : decide (r.f1 ≤ (rd_T41 l0 (k : Int)).f0) = false := decide_eq_false (by omega)
        by_cases c2 : r.f0 < (rd_T41 l0 (k : Int)).f1
        · have c2b : decide (r.f0 < (rd_T41 l0 (k : Int)).f1) = true := decide_eq_true c2
          rw [if_pos ⟨c1, c2⟩] at HA'
          have HA := Aside0.mk HA'
          clear HA'
          go_wp2_with (first | ((with_reducible refine gate_dst (N := 10) rfl ?_); refine box_event ?hg (N := 10) ?hd (cs := #[.int .i64 0, .int .i64 0, .int .i64 0, .int .i64 0, .int .i64 0, .int .i64 0]) (t := 41) ?hr ?_; (case hd => rfl); (case hg => rfl); (case hr => first | (go_simp; done) | (go_simp; rfl)); intro gx hgx w8 hbox hb8; have hc80 := (blk_cell hbox 0).trans (rfl : _ = some (Value.int .i64 0)); have hc81 := (blk_cell hbox 1).trans (rfl : _ = some (Value.int .i64 0)); have hc82 := (blk_cell hbox 2).trans (rfl : _ = some (Value.int .i64 0)); have hc83 := (blk_cell hbox 3).trans (rfl : _ = some (Value.int .i64 0)); have hc84 := (blk_cell hbox 4).trans (rfl : _ = some (Value.int .i64 0)); have hc85 := (blk_cell hbox 5).trans (rfl : _ = some (Value.int .i64 0)); have hf80 := blk_frozen hbox 0; have hf81 := blk_frozen hbox 1; have hf82 := blk_frozen hbox 2; have hf83 := blk_frozen hbox 3; have hf84 := blk_frozen hbox 4; have hf85 := blk_frozen hbox 5; have HGX := Aside0.mk hgx; have HBX := Aside0.mk hbox; have HB8 := Aside0.mk hb8; clear hgx hbox hb8) | ((with_reducible refine gate_store (t := 41) (p := 10) rfl ?_); refine store_event (t := 41) (p := 10) (v := ?vo) (w1 := ((((((w8.setCell ⟨gx, 0, none⟩ (.int .i64 (rd_T41 l0 (k : Int)).f0)).setCell ⟨gx, 1, none⟩ (.int .i64 (rd_T41 l0 (k : Int)).f1)).setCell ⟨gx, 2, none⟩ (.int .i64 (rd_T41 l0 (k : Int)).f2)).setCell ⟨gx, 3, none⟩ (.int .i64 (rd_T41 l0 (k : Int)).f3)).setCell ⟨gx, 4, none⟩ (.int .i64 (rd_T41 l0 (k : Int)).f4)).setCell ⟨gx, 5, none⟩ (.int .i64 (rd_T41 l0 (k : Int)).f5))) ?hg ?ho ?hn ?hr ?_; (case ho => rfl); (case hg => rfl); (case hn => rfl); (case hr => first | (go_simp; done) | (go_simp; rfl)); intro u1 hw9; obtain ⟨hb9, hx9⟩ := box_stored HGX.out HB8.out HBX.out hw9; have hgx := HGX.out; have ST1 := Aside0.mk (ST0.out.below hb9); have BX1 := Aside0.mk hx9; have BR1 := Aside0.mk (blk_below BR0.out hb9); have GXB := Aside0.mk (show gx ≠ b by have := blk_lt ST0.out.bk; omega); have AX1 := Aside0.mk (ST0.out.apart (Nat.le_of_eq hgx.symm)); have HB1 := Aside0.mk (HB0.out.trans (hb9.mono (Nat.le_of_lt (blk_lt ST0.out.bk)))); clear hb9 hx9 hw9 hgx HGX HB8 HBX hc80 hc81 hc82 hc83 hc84 hc85 hf80 hf81 hf82 hf83 hf84 hf85; clear hr0 hr1 hr2 hr3 hr4 hr5; have hr0 := (blk_cell BR1.out 0).trans (rfl : _ = some (Value.int .i64 (r).f0)); have hr1 := (blk_cell BR1.out 1).trans (rfl : _ = some (Value.int .i64 (r).f1)); have hr2 := (blk_cell BR1.out 2).trans (rfl : _ = some (Value.int .i64 (r).f2)); have hr3 := (blk_cell BR1.out 3).trans (rfl : _ = some (Value.int .i64 (r).f3)); have hr4 := (blk_cell BR1.out 4).trans (rfl : _ = some (Value.int .i64 (r).f4)); have hr5 := (blk_cell BR1.out 5).trans (rfl : _ = some (Value.int .i64 (r).f5)); have hx0 := (blk_cell BX1.out 0).trans (rfl : _ = some (Value.int .i64 ((rd_T41 l0 (k : Int))).f0)); have hx1 := (blk_cell BX1.out 1).trans (rfl : _ = some (Value.int .i64 ((rd_T41 l0 (k : Int))).f1)); have hx2 := (blk_cell BX1.out 2).trans (rfl : _ = some (Value.int .i64 ((rd_T41 l0 (k : Int))).f2)); have hx3 := (blk_cell BX1.out 3).trans (rfl : _ = some (Value.int .i64 ((rd_T41 l0 (k : Int))).f3)); have hx4 := (blk_cell BX1.out 4).trans (rfl : _ = some (Value.int .i64 ((rd_T41 l0 (k : Int))).f4)); have hx5 := (blk_cell BX1.out 5).trans (rfl : _ = some (Value.int .i64 ((rd_T41 l0 (k : Int))).f5))))
          go_ret2
          rw [← HA.out]
          exact ⟨_, rfl, Kd.V_nil _ _ _ _ _, HW.out.trans (HB1.out.mono WB.out)⟩
        · have c2b : decide (r.f0 < (rd_T41 l0 (k : Int)).f1) = false := decide_eq_false c2
          rw [if_neg (fun h => c2 h.2), if_neg (fun h => absurd h.2 (by omega))] at HA'
          cases ad_ with
          | true =>
            have HA := Aside0.mk HA'
            clear HA'
            go_wp2_with (first | ((with_reducible refine gate_dst (N := 10) rfl ?_); refine box_event ?hg (N := 10) ?hd (cs := #[.int .i64 0, .int .i64 0, .int .i64 0, .int .i64 0, .int .i64 0, .int .i64 0]) (t := 41) ?hr ?_; (case hd => rfl); (case hg => rfl); (case hr => first | (go_simp; done) | (go_simp; rfl)); intro gx hgx w8 hbox hb8; have hc80 := (blk_cell hbox 0).trans (rfl : _ = some (Value.int .i64 0)); have hc81 := (blk_cell hbox 1).trans (rfl : _ = some (Value.int .i64 0)); have hc82 := (blk_cell hbox 2).trans (rfl : _ = some (Value.int .i64 0)); have hc83 := (blk_cell hbox 3).trans (rfl : _ = some (Value.int .i64 0)); have hc84 := (blk_cell hbox 4).trans (rfl : _ = some (Value.int .i64 0)); have hc85 := (blk_cell hbox 5).trans (rfl : _ = some (Value.int .i64 0)); have hf80 := blk_frozen hbox 0; have hf81 := blk_frozen hbox 1; have hf82 := blk_frozen hbox 2; have hf83 := blk_frozen hbox 3; have hf84 := blk_frozen hbox 4; have hf85 := blk_frozen hbox 5; have HGX := Aside0.mk hgx; have HBX := Aside0.mk hbox; have HB8 := Aside0.mk hb8; clear hgx hbox hb8) | ((with_reducible refine gate_store (t := 41) (p := 10) rfl ?_); refine store_event (t := 41) (p := 10) (v := ?vo) (w1 := ((((((w8.setCell ⟨gx, 0, none⟩ (.int .i64 (rd_T41 l0 (k : Int)).f0)).setCell ⟨gx, 1, none⟩ (.int .i64 (rd_T41 l0 (k : Int)).f1)).setCell ⟨gx, 2, none⟩ (.int .i64 (rd_T41 l0 (k : Int)).f2)).setCell ⟨gx, 3, none⟩ (.int .i64 (rd_T41 l0 (k : Int)).f3)).setCell ⟨gx, 4, none⟩ (.int .i64 (rd_T41 l0 (k : Int)).f4)).setCell ⟨gx, 5, none⟩ (.int .i64 (rd_T41 l0 (k : Int)).f5))) ?hg ?ho ?hn ?hr ?_; (case ho => rfl); (case hg => rfl); (case hn => rfl); (case hr => first | (go_simp; done) | (go_simp; rfl)); intro u1 hw9; obtain ⟨hb9, hx9⟩ := box_stored HGX.out HB8.out HBX.out hw9; have hgx := HGX.out; have ST1 := Aside0.mk (ST0.out.below hb9); have BX1 := Aside0.mk hx9; have BR1 := Aside0.mk (blk_below BR0.out hb9); have GXB := Aside0.mk (show gx ≠ b by have := blk_lt ST0.out.bk; omega); have AX1 := Aside0.mk (ST0.out.apart (Nat.le_of_eq hgx.symm)); have HB1 := Aside0.mk (HB0.out.trans (hb9.mono (Nat.le_of_lt (blk_lt ST0.out.bk)))); clear hb9 hx9 hw9 hgx HGX HB8 HBX hc80 hc81 hc82 hc83 hc84 hc85 hf80 hf81 hf82 hf83 hf84 hf85; clear hr0 hr1 hr2 hr3 hr4 hr5; have hr0 := (blk_cell BR1.out 0).trans (rfl : _ = some (Value.int .i64 (r).f0)); have hr1 := (blk_cell BR1.out 1).trans (rfl : _ = some (Value.int .i64 (r).f1)); have hr2 := (blk_cell BR1.out 2).trans (rfl : _ = some (Value.int .i64 (r).f2)); have hr3 := (blk_cell BR1.out 3).trans (rfl : _ = some (Value.int .i64 (r).f3)); have hr4 := (blk_cell BR1.out 4).trans (rfl : _ = some (Value.int .i64 (r).f4)); have hr5 := (blk_cell BR1.out 5).trans (rfl : _ = some (Value.int .i64 (r).f5)); have hx0 := (blk_cell BX1.out 0).trans (rfl : _ = some (Value.int .i64 ((rd_T41 l0 (k : Int))).f0)); have hx1 := (blk_cell BX1.out 1).trans (rfl : _ = some (Value.int .i64 ((rd_T41 l0 (k : Int))).f1)); have hx2 := (blk_cell BX1.out 2).trans (rfl : _ = some (Value.int .i64 ((rd_T41 l0 (k : Int))).f2)); have hx3 := (blk_cell BX1.out 3).trans (rfl : _ = some (Value.int .i64 ((rd_T41 l0 (k : Int))).f3)); have hx4 := (blk_cell BX1.out 4).trans (rfl : _ = some (Value.int .i64 ((rd_T41 l0 (k : Int))).f4)); have hx5 := (blk_cell BX1.out 5).trans (rfl : _ = some (Value.int .i64 ((rd_T41 l0 (k : Int))).f5))))
            refine (put_calls (rd_T41 l0 (k : Int)) b out v1 _ ST1.out (by have := HL.out; have := HLEN.out; have := putT_length out r; have := putT_length out (rd_T41 l0 (k : Int)); have := HK.out; omega)).mono ?_
            rintro e u2 ⟨rfl, v2, st2, pk2⟩
            have ST2 := Aside0.mk st2
            have HB2 := Aside0.mk (HB1.out.trans pk2.bel)
            have BR2 := Aside0.mk ((pk2.bel.block gr GRB.out).trans BR1.out)
            have BX2 := Aside0.mk (pk2.box BX1.out GXB.out AX1.out)
            have AX2 := Aside0.mk (pk2.apart BX1.out AX1.out)
            clear st2 pk2
            clear hr0 hr1 hr2 hr3 hr4 hr5
            have hr0 := (blk_cell BR2.out 0).trans (rfl : _ = some (Value.int .i64 (r).f0))
            have hr1 := (blk_cell BR2.out 1).trans (rfl : _ = some (Value.int .i64 (r).f1))
            have hr2 := (blk_cell BR2.out 2).trans (rfl : _ = some (Value.int .i64 (r).f2))
            have hr3 := (blk_cell BR2.out 3).trans (rfl : _ = some (Value.int .i64 (r).f3))
            have hr4 := (blk_cell BR2.out 4).trans (rfl : _ = some (Value.int .i64 (r).f4))
            have hr5 := (blk_cell BR2.out 5).trans (rfl : _ = some (Value.int .i64 (r).f5))
            clear hx0 hx1 hx2 hx3 hx4 hx5
            have hx0 := (blk_cell BX2.out 0).trans (rfl : _ = some (Value.int .i64 ((rd_T41 l0 (k : Int))).f0))
            have hx1 := (blk_cell BX2.out 1).trans (rfl : _ = some (Value.int .i64 ((rd_T41 l0 (k : Int))).f1))
            have hx2 := (blk_cell BX2.out 2).trans (rfl : _ = some (Value.int .i64 ((rd_T41 l0 (k : Int))).f2))
            have hx3 := (blk_cell BX2.out 3).trans (rfl : _ = some (Value.int .i64 ((rd_T41 l0 (k : Int))).f3))
            have hx4 := (blk_cell BX2.out 4).trans (rfl : _ = some (Value.int .i64 ((rd_T41 l0 (k : Int))).f4))
            have hx5 := (blk_cell BX2.out 5).trans (rfl : _ = some (Value.int .i64 ((rd_T41 l0 (k : Int))).f5))
            go_wp2
            go_roundg k1
            case measure => omega
            case rel => exact ⟨k + 1, true, (putT out (rd_T41 l0 (k : Int))), v2, rfl, (by first | rfl | simp), ⟨by have := HK.out; omega⟩, HA, ST2, ⟨by have := HL.out; have := putT_length out r; have := putT_length out (rd_T41 l0 (k : Int)); have := putT_length (putT out r) (rd_T41 l0 (k : Int)); omega⟩, HB2⟩
          | false =>
            have HA := Aside0.mk HA'
            clear HA'
            go_wp2_with (first | ((with_reducible refine gate_dst (N := 10) rfl ?_); refine box_event ?hg (N := 10) ?hd (cs := #[.int .i64 0, .int .i64 0, .int .i64 0, .int .i64 0, .int .i64 0, .int .i64 0]) (t := 41) ?hr ?_; (case hd => rfl); (case hg => rfl); (case hr => first | (go_simp; done) | (go_simp; rfl)); intro gx hgx w8 hbox hb8; have hc80 := (blk_cell hbox 0).trans (rfl : _ = some (Value.int .i64 0)); have hc81 := (blk_cell hbox 1).trans (rfl : _ = some (Value.int .i64 0)); have hc82 := (blk_cell hbox 2).trans (rfl : _ = some (Value.int .i64 0)); have hc83 := (blk_cell hbox 3).trans (rfl : _ = some (Value.int .i64 0)); have hc84 := (blk_cell hbox 4).trans (rfl : _ = some (Value.int .i64 0)); have hc85 := (blk_cell hbox 5).trans (rfl : _ = some (Value.int .i64 0)); have hf80 := blk_frozen hbox 0; have hf81 := blk_frozen hbox 1; have hf82 := blk_frozen hbox 2; have hf83 := blk_frozen hbox 3; have hf84 := blk_frozen hbox 4; have hf85 := blk_frozen hbox 5; have HGX := Aside0.mk hgx; have HBX := Aside0.mk hbox; have HB8 := Aside0.mk hb8; clear hgx hbox hb8) | ((with_reducible refine gate_store (t := 41) (p := 10) rfl ?_); refine store_event (t := 41) (p := 10) (v := ?vo) (w1 := ((((((w8.setCell ⟨gx, 0, none⟩ (.int .i64 (rd_T41 l0 (k : Int)).f0)).setCell ⟨gx, 1, none⟩ (.int .i64 (rd_T41 l0 (k : Int)).f1)).setCell ⟨gx, 2, none⟩ (.int .i64 (rd_T41 l0 (k : Int)).f2)).setCell ⟨gx, 3, none⟩ (.int .i64 (rd_T41 l0 (k : Int)).f3)).setCell ⟨gx, 4, none⟩ (.int .i64 (rd_T41 l0 (k : Int)).f4)).setCell ⟨gx, 5, none⟩ (.int .i64 (rd_T41 l0 (k : Int)).f5))) ?hg ?ho ?hn ?hr ?_; (case ho => rfl); (case hg => rfl); (case hn => rfl); (case hr => first | (go_simp; done) | (go_simp; rfl)); intro u1 hw9; obtain ⟨hb9, hx9⟩ := box_stored HGX.out HB8.out HBX.out hw9; have hgx := HGX.out; have ST1 := Aside0.mk (ST0.out.below hb9); have BX1 := Aside0.mk hx9; have BR1 := Aside0.mk (blk_below BR0.out hb9); have GXB := Aside0.mk (show gx ≠ b by have := blk_lt ST0.out.bk; omega); have AX1 := Aside0.mk (ST0.out.apart (Nat.le_of_eq hgx.symm)); have HB1 := Aside0.mk (HB0.out.trans (hb9.mono (Nat.le_of_lt (blk_lt ST0.out.bk)))); clear hb9 hx9 hw9 hgx HGX HB8 HBX hc80 hc81 hc82 hc83 hc84 hc85 hf80 hf81 hf82 hf83 hf84 hf85; clear hr0 hr1 hr2 hr3 hr4 hr5; have hr0 := (blk_cell BR1.out 0).trans (rfl : _ = some (Value.int .i64 (r).f0)); have hr1 := (blk_cell BR1.out 1).trans (rfl : _ = some (Value.int .i64 (r).f1)); have hr2 := (blk_cell BR1.out 2).trans (rfl : _ = some (Value.int .i64 (r).f2)); have hr3 := (blk_cell BR1.out 3).trans (rfl : _ = some (Value.int .i64 (r).f3)); have hr4 := (blk_cell BR1.out 4).trans (rfl : _ = some (Value.int .i64 (r).f4)); have hr5 := (blk_cell BR1.out 5).trans (rfl : _ = some (Value.int .i64 (r).f5)); have hx0 := (blk_cell BX1.out 0).trans (rfl : _ = some (Value.int .i64 ((rd_T41 l0 (k : Int))).f0)); have hx1 := (blk_cell BX1.out 1).trans (rfl : _ = some (Value.int .i64 ((rd_T41 l0 (k : Int))).f1)); have hx2 := (blk_cell BX1.out 2).trans (rfl : _ = some (Value.int .i64 ((rd_T41 l0 (k : Int))).f2)); have hx3 := (blk_cell BX1.out 3).trans (rfl : _ = some (Value.int .i64 ((rd_T41 l0 (k : Int))).f3)); have hx4 := (blk_cell BX1.out 4).trans (rfl : _ = some (Value.int .i64 ((rd_T41 l0 (k : Int))).f4)); have hx5 := (blk_cell BX1.out 5).trans (rfl : _ = some (Value.int .i64 ((rd_T41 l0 (k : Int))).f5))))
            refine (put_calls (rd_T41 l0 (k : Int)) b out v1 _ ST1.out (by have := HL.out; have := HLEN.out; have := putT_length out r; have := putT_length out (rd_T41 l0 (k : Int)); have := HK.out; omega)).mono ?_
            rintro e u2 ⟨rfl, v2, st2, pk2⟩
            have ST2 := Aside0.mk st2
            have HB2 := Aside0.mk (HB1.out.trans pk2.bel)
            have BR2 := Aside0.mk ((pk2.bel.block gr GRB.out).trans BR1.out)
            have BX2 := Aside0.mk (pk2.box BX1.out GXB.out AX1.out)
            have AX2 := Aside0.mk (pk2.apart BX1.out AX1.out)
            clear st2 pk2
            clear hr0 hr1 hr2 hr3 hr4 hr5
            have hr0 := (blk_cell BR2.out 0).trans (rfl : _ = some (Value.int .i64 (r).f0))
            have hr1 := (blk_cell BR2.out 1).trans (rfl : _ = some (Value.int .i64 (r).f1))
            have hr2 := (blk_cell BR2.out 2).trans (rfl : _ = some (Value.int .i64 (r).f2))
            have hr3 := (blk_cell BR2.out 3).trans (rfl : _ = some (Value.int .i64 (r).f3))
            have hr4 := (blk_cell BR2.out 4).trans (rfl : _ = some (Value.int .i64 (r).f4))
            have hr5 := (blk_cell BR2.out 5).trans (rfl : _ = some (Value.int .i64 (r).f5))
            clear hx0 hx1 hx2 hx3 hx4 hx5
            have hx0 := (blk_cell BX2.out 0).trans (rfl : _ = some (Value.int .i64 ((rd_T41 l0 (k : Int))).f0))
            have hx1 := (blk_cell BX2.out 1).trans (rfl : _ = some (Value.int .i64 ((rd_T41 l0 (k : Int))).f1))
            have hx2 := (blk_cell BX2.out 2).trans (rfl : _ = some (Value.int .i64 ((rd_T41 l0 (k : Int))).f2))
            have hx3 := (blk_cell BX2.out 3).trans (rfl : _ = some (Value.int .i64 ((rd_T41 l0 (k : Int))).f3))
            have hx4 := (blk_cell BX2.out 4).trans (rfl : _ = some (Value.int .i64 ((rd_T41 l0 (k : Int))).f4))
            have hx5 := (blk_cell BX2.out 5).trans (rfl : _ = some (Value.int .i64 ((rd_T41 l0 (k : Int))).f5))
            go_wp2
            go_roundg k1
            case measure => omega
            case rel => exact ⟨k + 1, false, (putT out (rd_T41 l0 (k : Int))), v2, rfl, (by first | rfl | simp), ⟨by have := HK.out; omega⟩, HA, ST2, ⟨by have := HL.out; have := putT_length out r; have := putT_length out (rd_T41 l0 (k : Int)); have := putT_length (putT out r) (rd_T41 l0 (k : Int)); omega⟩, HB2⟩
      · have c1b : decide ((rd_T41 l0 (k : Int)).f0 < r.f1) = false := decide_eq_false c1
        have c1c : decide (r.f1 ≤ (rd_T41 l0 (k : Int)).f0) = true := decide_eq_true (by omega)
        rw [if_neg (fun h => c1 h.1)] at HA'
        cases ad_ with
        | true =>
          rw [if_neg (by simp)] at HA'
          have HA := Aside0.mk HA'
          clear HA'
          go_wp2_with (first | ((with_reducible refine gate_dst (N := 10) rfl ?_); refine box_event ?hg (N := 10) ?hd (cs := #[.int .i64 0, .int .i64 0, .int .i64 0, .int .i64 0, .int .i64 0, .int .i64 0]) (t := 41) ?hr ?_; (case hd => rfl); (case hg => rfl); (case hr => first | (go_simp; done) | (go_simp; rfl)); intro gx hgx w8 hbox hb8; have hc80 := (blk_cell hbox 0).trans (rfl : _ = some (Value.int .i64 0)); have hc81 := (blk_cell hbox 1).trans (rfl : _ = some (Value.int .i64 0)); have hc82 := (blk_cell hbox 2).trans (rfl : _ = some (Value.int .i64 0)); have hc83 := (blk_cell hbox 3).trans (rfl : _ = some (Value.int .i64 0)); have hc84 := (blk_cell hbox 4).trans (rfl : _ = some (Value.int .i64 0)); have hc85 := (blk_cell hbox 5).trans (rfl : _ = some (Value.int .i64 0)); have hf80 := blk_frozen hbox 0; have hf81 := blk_frozen hbox 1; have hf82 := blk_frozen hbox 2; have hf83 := blk_frozen hbox 3; have hf84 := blk_frozen hbox 4; have hf85 := blk_frozen hbox 5; have HGX := Aside0.mk hgx; have HBX := Aside0.mk hbox; have HB8 := Aside0.mk hb8; clear hgx hbox hb8) | ((with_reducible refine gate_store (t := 41) (p := 10) rfl ?_); refine store_event (t := 41) (p := 10) (v := ?vo) (w1 := ((((((w8.setCell ⟨gx, 0, none⟩ (.int .i64 (rd_T41 l0 (k : Int)).f0)).setCell ⟨gx, 1, none⟩ (.int .i64 (rd_T41 l0 (k : Int)).f1)).setCell ⟨gx, 2, none⟩ (.int .i64 (rd_T41 l0 (k : Int)).f2)).setCell ⟨gx, 3, none⟩ (.int .i64 (rd_T41 l0 (k : Int)).f3)).setCell ⟨gx, 4, none⟩ (.int .i64 (rd_T41 l0 (k : Int)).f4)).setCell ⟨gx, 5, none⟩ (.int .i64 (rd_T41 l0 (k : Int)).f5))) ?hg ?ho ?hn ?hr ?_; (case ho => rfl); (case hg => rfl); (case hn => rfl); (case hr => first | (go_simp; done) | (go_simp; rfl)); intro u1 hw9; obtain ⟨hb9, hx9⟩ := box_stored HGX.out HB8.out HBX.out hw9; have hgx := HGX.out; have ST1 := Aside0.mk (ST0.out.below hb9); have BX1 := Aside0.mk hx9; have BR1 := Aside0.mk (blk_below BR0.out hb9); have GXB := Aside0.mk (show gx ≠ b by have := blk_lt ST0.out.bk; omega); have AX1 := Aside0.mk (ST0.out.apart (Nat.le_of_eq hgx.symm)); have HB1 := Aside0.mk (HB0.out.trans (hb9.mono (Nat.le_of_lt (blk_lt ST0.out.bk)))); clear hb9 hx9 hw9 hgx HGX HB8 HBX hc80 hc81 hc82 hc83 hc84 hc85 hf80 hf81 hf82 hf83 hf84 hf85; clear hr0 hr1 hr2 hr3 hr4 hr5; have hr0 := (blk_cell BR1.out 0).trans (rfl : _ = some (Value.int .i64 (r).f0)); have hr1 := (blk_cell BR1.out 1).trans (rfl : _ = some (Value.int .i64 (r).f1)); have hr2 := (blk_cell BR1.out 2).trans (rfl : _ = some (Value.int .i64 (r).f2)); have hr3 := (blk_cell BR1.out 3).trans (rfl : _ = some (Value.int .i64 (r).f3)); have hr4 := (blk_cell BR1.out 4).trans (rfl : _ = some (Value.int .i64 (r).f4)); have hr5 := (blk_cell BR1.out 5).trans (rfl : _ = some (Value.int .i64 (r).f5)); have hx0 := (blk_cell BX1.out 0).trans (rfl : _ = some (Value.int .i64 ((rd_T41 l0 (k : Int))).f0)); have hx1 := (blk_cell BX1.out 1).trans (rfl : _ = some (Value.int .i64 ((rd_T41 l0 (k : Int))).f1)); have hx2 := (blk_cell BX1.out 2).trans (rfl : _ = some (Value.int .i64 ((rd_T41 l0 (k : Int))).f2)); have hx3 := (blk_cell BX1.out 3).trans (rfl : _ = some (Value.int .i64 ((rd_T41 l0 (k : Int))).f3)); have hx4 := (blk_cell BX1.out 4).trans (rfl : _ = some (Value.int .i64 ((rd_T41 l0 (k : Int))).f4)); have hx5 := (blk_cell BX1.out 5).trans (rfl : _ = some (Value.int .i64 ((rd_T41 l0 (k : Int))).f5))))
          refine (put_calls (rd_T41 l0 (k : Int)) b out v1 _ ST1.out (by have := HL.out; have := HLEN.out; have := putT_length out r; have := putT_length out (rd_T41 l0 (k : Int)); have := HK.out; omega)).mono ?_
          rintro e u2 ⟨rfl, v2, st2, pk2⟩
          have ST2 := Aside0.mk st2
          have HB2 := Aside0.mk (HB1.out.trans pk2.bel)
          have BR2 := Aside0.mk ((pk2.bel.block gr GRB.out).trans BR1.out)
          have BX2 := Aside0.mk (pk2.box BX1.out GXB.out AX1.out)
          have AX2 := Aside0.mk (pk2.apart BX1.out AX1.out)
          clear st2 pk2
          clear hr0 hr1 hr2 hr3 hr4 hr5
          have hr0 := (blk_cell BR2.out 0).trans (rfl : _ = some (Value.int .i64 (r).f0))
          have hr1 := (blk_cell BR2.out 1).trans (rfl : _ = some (Value.int .i64 (r).f1))
          have hr2 := (blk_cell BR2.out 2).trans (rfl : _ = some (Value.int .i64 (r).f2))
          have hr3 := (blk_cell BR2.out 3).trans (rfl : _ = some (Value.int .i64 (r).f3))
          have hr4 := (blk_cell BR2.out 4).trans (rfl : _ = some (Value.int .i64 (r).f4))
          have hr5 := (blk_cell BR2.out 5).trans (rfl : _ = some (Value.int .i64 (r).f5))
          clear hx0 hx1 hx2 hx3 hx4 hx5
          have hx0 := (blk_cell BX2.out 0).trans (rfl : _ = some (Value.int .i64 ((rd_T41 l0 (k : Int))).f0))
          have hx1 := (blk_cell BX2.out 1).trans (rfl : _ = some (Value.int .i64 ((rd_T41 l0 (k : Int))).f1))
          have hx2 := (blk_cell BX2.out 2).trans (rfl : _ = some (Value.int .i64 ((rd_T41 l0 (k : Int))).f2))
          have hx3 := (blk_cell BX2.out 3).trans (rfl : _ = some (Value.int .i64 ((rd_T41 l0 (k : Int))).f3))
          have hx4 := (blk_cell BX2.out 4).trans (rfl : _ = some (Value.int .i64 ((rd_T41 l0 (k : Int))).f4))
          have hx5 := (blk_cell BX2.out 5).trans (rfl : _ = some (Value.int .i64 ((rd_T41 l0 (k : Int))).f5))
          go_wp2
          go_roundg k1
          case measure => omega
          case rel => exact ⟨k + 1, true, (putT out (rd_T41 l0 (k : Int))), v2, rfl, (by first | rfl | simp), ⟨by have := HK.out; omega⟩, HA, ST2, ⟨by have := HL.out; have := putT_length out r; have := putT_length out (rd_T41 l0 (k : Int)); have := putT_length (putT out r) (rd_T41 l0 (k : Int)); omega⟩, HB2⟩
        | false =>
          rw [if_pos ⟨rfl, by omega⟩] at HA'
          have HA := Aside0.mk HA'
          clear HA'
          go_wp2_with (first | ((with_reducible refine gate_dst (N := 10) rfl ?_); refine box_event ?hg (N := 10) ?hd (cs := #[.int .i64 0, .int .i64 0, .int .i64 0, .int .i64 0, .int .i64 0, .int .i64 0]) (t := 41) ?hr ?_; (case hd => rfl); (case hg => rfl); (case hr => first | (go_simp; done) | (go_simp; rfl)); intro gx hgx w8 hbox hb8; have hc80 := (blk_cell hbox 0).trans (rfl : _ = some (Value.int .i64 0)); have hc81 := (blk_cell hbox 1).trans (rfl : _ = some (Value.int .i64 0)); have hc82 := (blk_cell hbox 2).trans (rfl : _ = some (Value.int .i64 0)); have hc83 := (blk_cell hbox 3).trans (rfl : _ = some (Value.int .i64 0)); have hc84 := (blk_cell hbox 4).trans (rfl : _ = some (Value.int .i64 0)); have hc85 := (blk_cell hbox 5).trans (rfl : _ = some (Value.int .i64 0)); have hf80 := blk_frozen hbox 0; have hf81 := blk_frozen hbox 1; have hf82 := blk_frozen hbox 2; have hf83 := blk_frozen hbox 3; have hf84 := blk_frozen hbox 4; have hf85 := blk_frozen hbox 5; have HGX := Aside0.mk hgx; have HBX := Aside0.mk hbox; have HB8 := Aside0.mk hb8; clear hgx hbox hb8) | ((with_reducible refine gate_store (t := 41) (p := 10) rfl ?_); refine store_event (t := 41) (p := 10) (v := ?vo) (w1 := ((((((w8.setCell ⟨gx, 0, none⟩ (.int .i64 (rd_T41 l0 (k : Int)).f0)).setCell ⟨gx, 1, none⟩ (.int .i64 (rd_T41 l0 (k : Int)).f1)).setCell ⟨gx, 2, none⟩ (.int .i64 (rd_T41 l0 (k : Int)).f2)).setCell ⟨gx, 3, none⟩ (.int .i64 (rd_T41 l0 (k : Int)).f3)).setCell ⟨gx, 4, none⟩ (.int .i64 (rd_T41 l0 (k : Int)).f4)).setCell ⟨gx, 5, none⟩ (.int .i64 (rd_T41 l0 (k : Int)).f5))) ?hg ?ho ?hn ?hr ?_; (case ho => rfl); (case hg => rfl); (case hn => rfl); (case hr => first | (go_simp; done) | (go_simp; rfl)); intro u1 hw9; obtain ⟨hb9, hx9⟩ := box_stored HGX.out HB8.out HBX.out hw9; have hgx := HGX.out; have ST1 := Aside0.mk (ST0.out.below hb9); have BX1 := Aside0.mk hx9; have BR1 := Aside0.mk (blk_below BR0.out hb9); have GXB := Aside0.mk (show gx ≠ b by have := blk_lt ST0.out.bk; omega); have AX1 := Aside0.mk (ST0.out.apart (Nat.le_of_eq hgx.symm)); have HB1 := Aside0.mk (HB0.out.trans (hb9.mono (Nat.le_of_lt (blk_lt ST0.out.bk)))); clear hb9 hx9 hw9 hgx HGX HB8 HBX hc80 hc81 hc82 hc83 hc84 hc85 hf80 hf81 hf82 hf83 hf84 hf85; clear hr0 hr1 hr2 hr3 hr4 hr5; have hr0 := (blk_cell BR1.out 0).trans (rfl : _ = some (Value.int .i64 (r).f0)); have hr1 := (blk_cell BR1.out 1).trans (rfl : _ = some (Value.int .i64 (r).f1)); have hr2 := (blk_cell BR1.out 2).trans (rfl : _ = some (Value.int .i64 (r).f2)); have hr3 := (blk_cell BR1.out 3).trans (rfl : _ = some (Value.int .i64 (r).f3)); have hr4 := (blk_cell BR1.out 4).trans (rfl : _ = some (Value.int .i64 (r).f4)); have hr5 := (blk_cell BR1.out 5).trans (rfl : _ = some (Value.int .i64 (r).f5)); have hx0 := (blk_cell BX1.out 0).trans (rfl : _ = some (Value.int .i64 ((rd_T41 l0 (k : Int))).f0)); have hx1 := (blk_cell BX1.out 1).trans (rfl : _ = some (Value.int .i64 ((rd_T41 l0 (k : Int))).f1)); have hx2 := (blk_cell BX1.out 2).trans (rfl : _ = some (Value.int .i64 ((rd_T41 l0 (k : Int))).f2)); have hx3 := (blk_cell BX1.out 3).trans (rfl : _ = some (Value.int .i64 ((rd_T41 l0 (k : Int))).f3)); have hx4 := (blk_cell BX1.out 4).trans (rfl : _ = some (Value.int .i64 ((rd_T41 l0 (k : Int))).f4)); have hx5 := (blk_cell BX1.out 5).trans (rfl : _ = some (Value.int .i64 ((rd_T41 l0 (k : Int))).f5))))
          refine (put_calls r b out v1 _ ST1.out (by have := HL.out; have := HLEN.out; have := putT_length out r; have := putT_length out (rd_T41 l0 (k : Int)); have := HK.out; omega)).mono ?_
          rintro e u2 ⟨rfl, v2, st2, pk2⟩
          have ST2 := Aside0.mk st2
          have HB2 := Aside0.mk (HB1.out.trans pk2.bel)
          have BR2 := Aside0.mk ((pk2.bel.block gr GRB.out).trans BR1.out)
          have BX2 := Aside0.mk (pk2.box BX1.out GXB.out AX1.out)
          have AX2 := Aside0.mk (pk2.apart BX1.out AX1.out)
          clear st2 pk2
          clear hr0 hr1 hr2 hr3 hr4 hr5
          have hr0 := (blk_cell BR2.out 0).trans (rfl : _ = some (Value.int .i64 (r).f0))
          have hr1 := (blk_cell BR2.out 1).trans (rfl : _ = some (Value.int .i64 (r).f1))
          have hr2 := (blk_cell BR2.out 2).trans (rfl : _ = some (Value.int .i64 (r).f2))
          have hr3 := (blk_cell BR2.out 3).trans (rfl : _ = some (Value.int .i64 (r).f3))
          have hr4 := (blk_cell BR2.out 4).trans (rfl : _ = some (Value.int .i64 (r).f4))
          have hr5 := (blk_cell BR2.out 5).trans (rfl : _ = some (Value.int .i64 (r).f5))
          clear hx0 hx1 hx2 hx3 hx4 hx5
          have hx0 := (blk_cell BX2.out 0).trans (rfl : _ = some (Value.int .i64 ((rd_T41 l0 (k : Int))).f0))
          have hx1 := (blk_cell BX2.out 1).trans (rfl : _ = some (Value.int .i64 ((rd_T41 l0 (k : Int))).f1))
          have hx2 := (blk_cell BX2.out 2).trans (rfl : _ = some (Value.int .i64 ((rd_T41 l0 (k : Int))).f2))
          have hx3 := (blk_cell BX2.out 3).trans (rfl : _ = some (Value.int .i64 ((rd_T41 l0 (k : Int))).f3))
          have hx4 := (blk_cell BX2.out 4).trans (rfl : _ = some (Value.int .i64 ((rd_T41 l0 (k : Int))).f4))
          have hx5 := (blk_cell BX2.out 5).trans (rfl : _ = some (Value.int .i64 ((rd_T41 l0 (k : Int))).f5))
          go_wp2_with fail
          refine (put_calls (rd_T41 l0 (k : Int)) b (putT out r) v2 _ ST2.out (by have := HL.out; have := HLEN.out; have := putT_length out r; have := putT_length out (rd_T41 l0 (k : Int)); have := HK.out; omega)).mono ?_
          rintro e u3 ⟨rfl, v3, st3, pk3⟩
          have ST3 := Aside0.mk st3
          have HB3 := Aside0.mk (HB2.out.trans pk3.bel)
          have BR3 := Aside0.mk ((pk3.bel.block gr GRB.out).trans BR2.out)
          have BX3 := Aside0.mk (pk3.box BX2.out GXB.out AX2.out)
          have AX3 := Aside0.mk (pk3.apart BX2.out AX2.out)
          clear st3 pk3
          clear hr0 hr1 hr2 hr3 hr4 hr5
          have hr0 := (blk_cell BR3.out 0).trans (rfl : _ = some (Value.int .i64 (r).f0))
          have hr1 := (blk_cell BR3.out 1).trans (rfl : _ = some (Value.int .i64 (r).f1))
          have hr2 := (blk_cell BR3.out 2).trans (rfl : _ = some (Value.int .i64 (r).f2))
          have hr3 := (blk_cell BR3.out 3).trans (rfl : _ = some (Value.int .i64 (r).f3))
          have hr4 := (blk_cell BR3.out 4).trans (rfl : _ = some (Value.int .i64 (r).f4))
          have hr5 := (blk_cell BR3.out 5).trans (rfl : _ = some (Value.int .i64 (r).f5))
          clear hx0 hx1 hx2 hx3 hx4 hx5
          have hx0 := (blk_cell BX3.out 0).trans (rfl : _ = some (Value.int .i64 ((rd_T41 l0 (k : Int))).f0))
          have hx1 := (blk_cell BX3.out 1).trans (rfl : _ = some (Value.int .i64 ((rd_T41 l0 (k : Int))).f1))
          have hx2 := (blk_cell BX3.out 2).trans (rfl : _ = some (Value.int .i64 ((rd_T41 l0 (k : Int))).f2))
          have hx3 := (blk_cell BX3.out 3).trans (rfl : _ = some (Value.int .i64 ((rd_T41 l0 (k : Int))).f3))
          have hx4 := (blk_cell BX3.out 4).trans (rfl : _ = some (Value.int .i64 ((rd_T41 l0 (k : Int))).f4))
          have hx5 := (blk_cell BX3.out 5).trans (rfl : _ = some (Value.int .i64 ((rd_T41 l0 (k : Int))).f5))
          go_wp2
          go_roundg k1
          case measure => omega
          case rel => exact ⟨k + 1, true, (putT (putT out r) (rd_T41 l0 (k : Int))), v3, rfl, (by first | rfl | simp), ⟨by have := HK.out; omega⟩, HA, ST3, ⟨by have := HL.out; have := putT_length out r; have := putT_length out (rd_T41 l0 (k : Int)); have := putT_length (putT out r) (rd_T41 l0 (k : Int)); omega⟩, HB3⟩
end Go.Proofs.Ytafmeagfockdfaa.Rg
