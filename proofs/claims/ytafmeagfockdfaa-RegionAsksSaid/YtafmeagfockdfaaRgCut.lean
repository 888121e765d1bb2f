/-
  region.Add, Cut, Protect: called with a row that can be read, they return what the functions of RgT tell. (Written by mk_rgadd.py, a program of this session.)
-/
import Derived.Test.YtafmeagfockdfaaRgAdd
namespace Go.Proofs.Ytafmeagfockdfaa.Rg
open Go.RowKit Go.Proofs.YtafmeagfockdfaaW.PrintWords Go.Proofs.YtafmeagfockdfaaW.PrintLast Go.Proofs.YtafmeagfockdfaaW.PrintMore
set_option linter.unusedVariables false
set_option linter.unusedSimpArgs false


set_option maxHeartbeats 8000000 in
set_option maxRecDepth 100000 in
theorem cut_main (A0 : Option Addr) (c0 : Nat) (l0 : List S41) (a1 a2 : Int) (res : List S41) (w : World) (hr0 : Kd.C k41 w A0 l0.length l0) (hlen : l0.length < 1000000) (hres : l0.foldl (cutT a1 a2) [] = res) :
    Calls Try.prog 35 #[.slice A0 l0.length c0, .int .i64 a1, .int .i64 a2] w fun e w' => ∃ v0_ : Value, e = .returned v0_ ∧ Kd.V k41 41 w' w.heap.size (fun k_ => w.heap.size ≤ k_) v0_ res ∧ Below w.heap.size w w' := by
  have HR0 := Aside0.mk hr0
  have HLEN := Aside0.mk hlen
  have HRES := Aside0.mk hres
  clear hr0 hlen hres
  go_enter Try.func35, Try.ntmps35
  go_wp2_with fail
  refine (row_calls _).mono ?_
  rintro e w3 ⟨rfl, hw3⟩
  have ST := Aside0.mk (RowSt.new w w3 hw3)
  have hb3 : Below w.heap.size w w3 := by subst hw3; exact below_alloc (Below.refl _ _) _
  have HB3 := Aside0.mk hb3
  clear hw3 hb3
  generalize hbb : w.heap.size = b at ST HB3 ⊢
  have HBB := Aside0.mk hbb
  clear hbb
  go_wp2
  go_loopg [17] l0.length (fun kq v17 wr => ∃ (k : Nat) (out : List S41) (v : Value), v17 = .int .i64 (k : Int) ∧ Aside0 (k + kq = l0.length) ∧ Aside0 ((l0.drop k).foldl (cutT a1 a2) out = res) ∧ Aside0 (RowSt b wr v out) ∧ Aside0 (out.length ≤ 2 * k) ∧ Aside0 (Below b w wr))
  case atStart => exact ⟨0, [], _, rfl, ⟨by omega⟩, HRES, ST, ⟨by simp⟩, ⟨HB3.out⟩⟩
  case round =>
    clear ST HRES
    obtain ⟨k, out, v1, rfl, HK, HA, ST0, HL, HB0⟩ := hrel
    cases gk with
    | zero =>
      have hk0 : k = l0.length := by have := HK.out; omega
      subst hk0
      have dk : decide ((l0.length : Int) < (l0.length : Int)) = false := by simp
      have HA' := HA.out
      rw [List.drop_length] at HA'
      simp only [List.foldl_nil] at HA'
      clear HA
      have HA := Aside0.mk HA'
      clear HA'
      obtain ⟨A9, c9, e9⟩ := Kd.R_slice ST0.out.own
      subst e9
      have hs9 := (blk_cell ST0.out.bk 0).trans (rfl : _ = some (Value.slice A9 (out).length c9))
      go_wp2_with fail
      refine (told_calls b A9 (out).length c9 _ hs9 (Kd.R_reads' ST0.out.own).2.1).mono ?_
      rintro e u9 ⟨rfl, hb9⟩
      have HB9 := Aside0.mk hb9
      clear hb9
      go_wp2
      go_ret
      rw [← HA.out]
      have hbb := HBB.out
      exact ⟨_, rfl, ST0.out.told HB9.out (Nat.le_of_eq hbb) _, (HB0.out.mono (Nat.le_of_eq hbb)).trans (HB9.out.mono (HB0.out.mono (Nat.le_of_eq hbb)).size)⟩
    | succ k1 =>
      have hkl : k < l0.length := by have := HK.out; omega
      have hkm : (k : Int) < (l0.length : Int) := by omega
      have hm0 : l0.length ≤ 9223372036854775807 := by have := HLEN.out; omega
      have hd : l0.drop k = (rd_T41 l0 (k : Int)) :: l0.drop (k + 1) := by
        rw [List.drop_eq_getElem_cons hkl]; simp [rd_T41, hkl]
      obtain ⟨ad, ead, ha0, ha1, ha2, ha3, ha4, ha5⟩ := at_T41 (Kd.C_below HR0.out (HB0.out.mono (Nat.le_of_eq HBB.out))) (k : Int) (by omega) hkm
      cases ead
      simp only [Int.toNat_natCast] at ha0 ha1 ha2 ha3 ha4 ha5
      have p1 := eq_true (show (0 : Int) ≤ (k : Int) by omega)
      have q1 := eq_true hkm
      have dk : decide ((k : Int) < (l0.length : Int)) = true := decide_eq_true hkm
      have dk2 : decide (k < l0.length) = true := decide_eq_true hkl
      have hk1 : IntKind.i64.wrap ((k : Int) + 1) = ((k + 1 : Nat) : Int) := by rw [i64_w]; unfold wrap64; omega
      rw [hd] at HA
      have HA' := HA.out
      rw [List.foldl_cons] at HA'
      unfold cutT at HA'
      clear HA hd
      by_cases c1 : a1 ≥ a2
      · have c1b : decide (a2 ≤ a1) = true := decide_eq_true c1
        rw [if_pos (.inl c1)] at HA'
        have HA := Aside0.mk HA'
        clear HA'
        go_wp2_with (first | ((with_reducible refine gate_dst (N := 10) rfl ?_); refine box_event ?hg (N := 10) ?hd (cs := #[.int .i64 0, .int .i64 0, .int .i64 0, .int .i64 0, .int .i64 0, .int .i64 0]) (t := 41) ?hr ?_; (case hd => rfl); (case hg => rfl); (case hr => first | (go_simp; done) | (go_simp; rfl)); intro gx hgx w8 hbox hb8; have hc80 := (blk_cell hbox 0).trans (rfl : _ = some (Value.int .i64 0)); have hc81 := (blk_cell hbox 1).trans (rfl : _ = some (Value.int .i64 0)); have hc82 := (blk_cell hbox 2).trans (rfl : _ = some (Value.int .i64 0)); have hc83 := (blk_cell hbox 3).trans (rfl : _ = some (Value.int .i64 0)); have hc84 := (blk_cell hbox 4).trans (rfl : _ = some (Value.int .i64 0)); have hc85 := (blk_cell hbox 5).trans (rfl : _ = some (Value.int .i64 0)); have hf80 := blk_frozen hbox 0; have hf81 := blk_frozen hbox 1; have hf82 := blk_frozen hbox 2; have hf83 := blk_frozen hbox 3; have hf84 := blk_frozen hbox 4; have hf85 := blk_frozen hbox 5; have HGX := Aside0.mk hgx; have HBX := Aside0.mk hbox; have HB8 := Aside0.mk hb8; clear hgx hbox hb8) | ((with_reducible refine gate_store (t := 41) (p := 10) rfl ?_); refine store_event (t := 41) (p := 10) (v := ?vo) (w1 := ((((((w8.setCell ⟨gx, 0, none⟩ (.int .i64 (rd_T41 l0 (k : Int)).f0)).setCell ⟨gx, 1, none⟩ (.int .i64 (rd_T41 l0 (k : Int)).f1)).setCell ⟨gx, 2, none⟩ (.int .i64 (rd_T41 l0 (k : Int)).f2)).setCell ⟨gx, 3, none⟩ (.int .i64 (rd_T41 l0 (k : Int)).f3)).setCell ⟨gx, 4, none⟩ (.int .i64 (rd_T41 l0 (k : Int)).f4)).setCell ⟨gx, 5, none⟩ (.int .i64 (rd_T41 l0 (k : Int)).f5))) ?hg ?ho ?hn ?hr ?_; (case ho => rfl); (case hg => rfl); (case hn => rfl); (case hr => first | (go_simp; done) | (go_simp; rfl)); intro u1 hw9; obtain ⟨hb9, hx9⟩ := box_stored HGX.out HB8.out HBX.out hw9; have hgx := HGX.out; have ST1 := Aside0.mk (ST0.out.below hb9); have BX1 := Aside0.mk hx9; have GXB := Aside0.mk (show gx ≠ b by have := blk_lt ST0.out.bk; omega); have AX1 := Aside0.mk (ST0.out.apart (Nat.le_of_eq hgx.symm)); have HB1 := Aside0.mk (HB0.out.trans (hb9.mono (Nat.le_of_lt (blk_lt ST0.out.bk)))); clear hb9 hx9 hw9 hgx HGX HB8 HBX hc80 hc81 hc82 hc83 hc84 hc85 hf80 hf81 hf82 hf83 hf84 hf85; have hx0 := (blk_cell BX1.out 0).trans (rfl : _ = some (Value.int .i64 ((rd_T41 l0 (k : Int))).f0)); have hx1 := (blk_cell BX1.out 1).trans (rfl : _ = some (Value.int .i64 ((rd_T41 l0 (k : Int))).f1)); have hx2 := (blk_cell BX1.out 2).trans (rfl : _ = some (Value.int .i64 ((rd_T41 l0 (k : Int))).f2)); have hx3 := (blk_cell BX1.out 3).trans (rfl : _ = some (Value.int .i64 ((rd_T41 l0 (k : Int))).f3)); have hx4 := (blk_cell BX1.out 4).trans (rfl : _ = some (Value.int .i64 ((rd_T41 l0 (k : Int))).f4)); have hx5 := (blk_cell BX1.out 5).trans (rfl : _ = some (Value.int .i64 ((rd_T41 l0 (k : Int))).f5))))
        refine (put_calls (rd_T41 l0 (k : Int)) b out v1 _ ST1.out (by have := HL.out; have := HLEN.out; have := HK.out; have := putT_length out (rd_T41 l0 (k : Int)); have := putT_length out (partT (rd_T41 l0 (k : Int)) ((rd_T41 l0 (k : Int))).f0 a1); omega)).mono ?_
        rintro e u2 ⟨rfl, v2, st2, pk2⟩
        have ST2 := Aside0.mk st2
        have HB2 := Aside0.mk (HB1.out.trans pk2.bel)
        have BX2 := Aside0.mk (pk2.box BX1.out GXB.out AX1.out)
        have AX2 := Aside0.mk (pk2.apart BX1.out AX1.out)
        clear st2 pk2
        clear hx0 hx1 hx2 hx3 hx4 hx5
        have hx0 := (blk_cell BX2.out 0).trans (rfl : _ = some (Value.int .i64 ((rd_T41 l0 (k : Int))).f0))
        have hx1 := (blk_cell BX2.out 1).trans (rfl : _ = some (Value.int .i64 ((rd_T41 l0 (k : Int))).f1))
        have hx2 := (blk_cell BX2.out 2).trans (rfl : _ = some (Value.int .i64 ((rd_T41 l0 (k : Int))).f2))
        have hx3 := (blk_cell BX2.out 3).trans (rfl : _ = some (Value.int .i64 ((rd_T41 l0 (k : Int))).f3))
        have hx4 := (blk_cell BX2.out 4).trans (rfl : _ = some (Value.int .i64 ((rd_T41 l0 (k : Int))).f4))
        have hx5 := (blk_cell BX2.out 5).trans (rfl : _ = some (Value.int .i64 ((rd_T41 l0 (k : Int))).f5))
        go_wp2
        go_roundg k1
        case measure => omega
        case rel => exact ⟨k + 1, (putT out (rd_T41 l0 (k : Int))), v2, (by first | rfl | simp), ⟨by have := HK.out; omega⟩, HA, ST2, ⟨by have := HL.out; have := putT_length out (rd_T41 l0 (k : Int)); have := putT_length out (partT (rd_T41 l0 (k : Int)) ((rd_T41 l0 (k : Int))).f0 a1); have := putT_length (putT out (partT (rd_T41 l0 (k : Int)) ((rd_T41 l0 (k : Int))).f0 a1)) (partT (rd_T41 l0 (k : Int)) a2 ((rd_T41 l0 (k : Int))).f1); omega⟩, HB2⟩
      · have c1b : decide (a2 ≤ a1) = false := decide_eq_false c1
        by_cases c2 : (rd_T41 l0 (k : Int)).f1 ≤ a1
        · have c2b : decide ((rd_T41 l0 (k : Int)).f1 ≤ a1) = true := decide_eq_true c2
          rw [if_pos (.inr (.inl c2))] at HA'
          have HA := Aside0.mk HA'
          clear HA'
          go_wp2_with (first | ((with_reducible refine gate_dst (N := 10) rfl ?_); refine box_event ?hg (N := 10) ?hd (cs := #[.int .i64 0, .int .i64 0, .int .i64 0, .int .i64 0, .int .i64 0, .int .i64 0]) (t := 41) ?hr ?_; (case hd => rfl); (case hg => rfl); (case hr => first | (go_simp; done) | (go_simp; rfl)); intro gx hgx w8 hbox hb8; have hc80 := (blk_cell hbox 0).trans (rfl : _ = some (Value.int .i64 0)); have hc81 := (blk_cell hbox 1).trans (rfl : _ = some (Value.int .i64 0)); have hc82 := (blk_cell hbox 2).trans (rfl : _ = some (Value.int .i64 0)); have hc83 := (blk_cell hbox 3).trans (rfl : _ = some (Value.int .i64 0)); have hc84 := (blk_cell hbox 4).trans (rfl : _ = some (Value.int .i64 0)); have hc85 := (blk_cell hbox 5).trans (rfl : _ = some (Value.int .i64 0)); have hf80 := blk_frozen hbox 0; have hf81 := blk_frozen hbox 1; have hf82 := blk_frozen hbox 2; have hf83 := blk_frozen hbox 3; have hf84 := blk_frozen hbox 4; have hf85 := blk_frozen hbox 5; have HGX := Aside0.mk hgx; have HBX := Aside0.mk hbox; have HB8 := Aside0.mk hb8; clear hgx hbox hb8) | ((with_reducible refine gate_store (t := 41) (p := 10) rfl ?_); refine store_event (t := 41) (p := 10) (v := ?vo) (w1 := ((((((w8.setCell ⟨gx, 0, none⟩ (.int .i64 (rd_T41 l0 (k : Int)).f0)).setCell ⟨gx, 1, none⟩ (.int .i64 (rd_T41 l0 (k : Int)).f1)).setCell ⟨gx, 2, none⟩ (.int .i64 (rd_T41 l0 (k : Int)).f2)).setCell ⟨gx, 3, none⟩ (.int .i64 (rd_T41 l0 (k : Int)).f3)).setCell ⟨gx, 4, none⟩ (.int .i64 (rd_T41 l0 (k : Int)).f4)).setCell ⟨gx, 5, none⟩ (.int .i64 (rd_T41 l0 (k : Int)).f5))) ?hg ?ho ?hn ?hr ?_; (case ho => rfl); (case hg => rfl); (case hn => rfl); (case hr => first | (go_simp; done) | (go_simp; rfl)); intro u1 hw9; obtain ⟨hb9, hx9⟩ := box_stored HGX.out HB8.out HBX.out hw9; have hgx := HGX.out; have ST1 := Aside0.mk (ST0.out.below hb9); have BX1 := Aside0.mk hx9; have GXB := Aside0.mk (show gx ≠ b by have := blk_lt ST0.out.bk; omega); have AX1 := Aside0.mk (ST0.out.apart (Nat.le_of_eq hgx.symm)); have HB1 := Aside0.mk (HB0.out.trans (hb9.mono (Nat.le_of_lt (blk_lt ST0.out.bk)))); clear hb9 hx9 hw9 hgx HGX HB8 HBX hc80 hc81 hc82 hc83 hc84 hc85 hf80 hf81 hf82 hf83 hf84 hf85; have hx0 := (blk_cell BX1.out 0).trans (rfl : _ = some (Value.int .i64 ((rd_T41 l0 (k : Int))).f0)); have hx1 := (blk_cell BX1.out 1).trans (rfl : _ = some (Value.int .i64 ((rd_T41 l0 (k : Int))).f1)); have hx2 := (blk_cell BX1.out 2).trans (rfl : _ = some (Value.int .i64 ((rd_T41 l0 (k : Int))).f2)); have hx3 := (blk_cell BX1.out 3).trans (rfl : _ = some (Value.int .i64 ((rd_T41 l0 (k : Int))).f3)); have hx4 := (blk_cell BX1.out 4).trans (rfl : _ = some (Value.int .i64 ((rd_T41 l0 (k : Int))).f4)); have hx5 := (blk_cell BX1.out 5).trans (rfl : _ = some (Value.int .i64 ((rd_T41 l0 (k : Int))).f5))))
          refine (put_calls (rd_T41 l0 (k : Int)) b out v1 _ ST1.out (by have := HL.out; have := HLEN.out; have := HK.out; have := putT_length out (rd_T41 l0 (k : Int)); have := putT_length out (partT (rd_T41 l0 (k : Int)) ((rd_T41 l0 (k : Int))).f0 a1); omega)).mono ?_
          rintro e u2 ⟨rfl, v2, st2, pk2⟩
          have ST2 := Aside0.mk st2
          have HB2 := Aside0.mk (HB1.out.trans pk2.bel)
          have BX2 := Aside0.mk (pk2.box BX1.out GXB.out AX1.out)
          have AX2 := Aside0.mk (pk2.apart BX1.out AX1.out)
          clear st2 pk2
          clear hx0 hx1 hx2 hx3 hx4 hx5
          have hx0 := (blk_cell BX2.out 0).trans (rfl : _ = some (Value.int .i64 ((rd_T41 l0 (k : Int))).f0))
          have hx1 := (blk_cell BX2.out 1).trans (rfl : _ = some (Value.int .i64 ((rd_T41 l0 (k : Int))).f1))
          have hx2 := (blk_cell BX2.out 2).trans (rfl : _ = some (Value.int .i64 ((rd_T41 l0 (k : Int))).f2))
          have hx3 := (blk_cell BX2.out 3).trans (rfl : _ = some (Value.int .i64 ((rd_T41 l0 (k : Int))).f3))
          have hx4 := (blk_cell BX2.out 4).trans (rfl : _ = some (Value.int .i64 ((rd_T41 l0 (k : Int))).f4))
          have hx5 := (blk_cell BX2.out 5).trans (rfl : _ = some (Value.int .i64 ((rd_T41 l0 (k : Int))).f5))
          go_wp2
          go_roundg k1
          case measure => omega
          case rel => exact ⟨k + 1, (putT out (rd_T41 l0 (k : Int))), v2, (by first | rfl | simp), ⟨by have := HK.out; omega⟩, HA, ST2, ⟨by have := HL.out; have := putT_length out (rd_T41 l0 (k : Int)); have := putT_length out (partT (rd_T41 l0 (k : Int)) ((rd_T41 l0 (k : Int))).f0 a1); have := putT_length (putT out (partT (rd_T41 l0 (k : Int)) ((rd_T41 l0 (k : Int))).f0 a1)) (partT (rd_T41 l0 (k : Int)) a2 ((rd_T41 l0 (k : Int))).f1); omega⟩, HB2⟩
        · have c2b : decide ((rd_T41 l0 (k : Int)).f1 ≤ a1) = false := decide_eq_false c2
          by_cases c3 : (rd_T41 l0 (k : Int)).f0 ≥ a2
          · have c3b : decide (a2 ≤ (rd_T41 l0 (k : Int)).f0) = true := decide_eq_true c3
            rw [if_pos (.inr (.inr c3))] at HA'
            have HA := Aside0.mk HA'
            clear HA'
            go_wp2_with (first | ((with_reducible refine gate_dst (N := 10) rfl ?_); refine box_event ?hg (N := 10) ?hd (cs := #[.int .i64 0, .int .i64 0, .int .i64 0, .int .i64 0, .int .i64 0, .int .i64 0]) (t := 41) ?hr ?_; (case hd => rfl); (case hg => rfl); (case hr => first | (go_simp; done) | (go_simp; rfl)); intro gx hgx w8 hbox hb8; have hc80 := (blk_cell hbox 0).trans (rfl : _ = some (Value.int .i64 0)); have hc81 := (blk_cell hbox 1).trans (rfl : _ = some (Value.int .i64 0)); have hc82 := (blk_cell hbox 2).trans (rfl : _ = some (Value.int .i64 0)); have hc83 := (blk_cell hbox 3).trans (rfl : _ = some (Value.int .i64 0)); have hc84 := (blk_cell hbox 4).trans (rfl : _ = some (Value.int .i64 0)); have hc85 := (blk_cell hbox 5).trans (rfl : _ = some (Value.int .i64 0)); have hf80 := blk_frozen hbox 0; have hf81 := blk_frozen hbox 1; have hf82 := blk_frozen hbox 2; have hf83 := blk_frozen hbox 3; have hf84 := blk_frozen hbox 4; have hf85 := blk_frozen hbox 5; have HGX := Aside0.mk hgx; have HBX := Aside0.mk hbox; have HB8 := Aside0.mk hb8; clear hgx hbox hb8) | ((with_reducible refine gate_store (t := 41) (p := 10) rfl ?_); refine store_event (t := 41) (p := 10) (v := ?vo) (w1 := ((((((w8.setCell ⟨gx, 0, none⟩ (.int .i64 (rd_T41 l0 (k : Int)).f0)).setCell ⟨gx, 1, none⟩ (.int .i64 (rd_T41 l0 (k : Int)).f1)).setCell ⟨gx, 2, none⟩ (.int .i64 (rd_T41 l0 (k : Int)).f2)).setCell ⟨gx, 3, none⟩ (.int .i64 (rd_T41 l0 (k : Int)).f3)).setCell ⟨gx, 4, none⟩ (.int .i64 (rd_T41 l0 (k : Int)).f4)).setCell ⟨gx, 5, none⟩ (.int .i64 (rd_T41 l0 (k : Int)).f5))) ?hg ?ho ?hn ?hr ?_; (case ho => rfl); (case hg => rfl); (case hn => rfl); (case hr => first | (go_simp; done) | (go_simp; rfl)); intro u1 hw9; obtain ⟨hb9, hx9⟩ := box_stored HGX.out HB8.out HBX.out hw9; have hgx := HGX.out; have ST1 := Aside0.mk (ST0.out.below hb9); have BX1 := Aside0.mk hx9; have GXB := Aside0.mk (show gx ≠ b by have := blk_lt ST0.out.bk; omega); have AX1 := Aside0.mk (ST0.out.apart (Nat.le_of_eq hgx.symm)); have HB1 := Aside0.mk (HB0.out.trans (hb9.mono (Nat.le_of_lt (blk_lt ST0.out.bk)))); clear hb9 hx9 hw9 hgx HGX HB8 HBX hc80 hc81 hc82 hc83 hc84 hc85 hf80 hf81 hf82 hf83 hf84 hf85; have hx0 := (blk_cell BX1.out 0).trans (rfl : _ = some (Value.int .i64 ((rd_T41 l0 (k : Int))).f0)); have hx1 := (blk_cell BX1.out 1).trans (rfl : _ = some (Value.int .i64 ((rd_T41 l0 (k : Int))).f1)); have hx2 := (blk_cell BX1.out 2).trans (rfl : _ = some (Value.int .i64 ((rd_T41 l0 (k : Int))).f2)); have hx3 := (blk_cell BX1.out 3).trans (rfl : _ = some (Value.int .i64 ((rd_T41 l0 (k : Int))).f3)); have hx4 := (blk_cell BX1.out 4).trans (rfl : _ = some (Value.int .i64 ((rd_T41 l0 (k : Int))).f4)); have hx5 := (blk_cell BX1.out 5).trans (rfl : _ = some (Value.int .i64 ((rd_T41 l0 (k : Int))).f5))))
            refine (put_calls (rd_T41 l0 (k : Int)) b out v1 _ ST1.out (by have := HL.out; have := HLEN.out; have := HK.out; have := putT_length out (rd_T41 l0 (k : Int)); have := putT_length out (partT (rd_T41 l0 (k : Int)) ((rd_T41 l0 (k : Int))).f0 a1); omega)).mono ?_
            rintro e u2 ⟨rfl, v2, st2, pk2⟩
            have ST2 := Aside0.mk st2
            have HB2 := Aside0.mk (HB1.out.trans pk2.bel)
            have BX2 := Aside0.mk (pk2.box BX1.out GXB.out AX1.out)
            have AX2 := Aside0.mk (pk2.apart BX1.out AX1.out)
            clear st2 pk2
            clear hx0 hx1 hx2 hx3 hx4 hx5
            have hx0 := (blk_cell BX2.out 0).trans (rfl : _ = some (Value.int .i64 ((rd_T41 l0 (k : Int))).f0))
            have hx1 := (blk_cell BX2.out 1).trans (rfl : _ = some (Value.int .i64 ((rd_T41 l0 (k : Int))).f1))
            have hx2 := (blk_cell BX2.out 2).trans (rfl : _ = some (Value.int .i64 ((rd_T41 l0 (k : Int))).f2))
            have hx3 := (blk_cell BX2.out 3).trans (rfl : _ = some (Value.int .i64 ((rd_T41 l0 (k : Int))).f3))
            have hx4 := (blk_cell BX2.out 4).trans (rfl : _ = some (Value.int .i64 ((rd_T41 l0 (k : Int))).f4))
            have hx5 := (blk_cell BX2.out 5).trans (rfl : _ = some (Value.int .i64 ((rd_T41 l0 (k : Int))).f5))
            go_wp2
            go_roundg k1
            case measure => omega
            case rel => exact ⟨k + 1, (putT out (rd_T41 l0 (k : Int))), v2, (by first | rfl | simp), ⟨by have := HK.out; omega⟩, HA, ST2, ⟨by have := HL.out; have := putT_length out (rd_T41 l0 (k : Int)); have := putT_length out (partT (rd_T41 l0 (k : Int)) ((rd_T41 l0 (k : Int))).f0 a1); have := putT_length (putT out (partT (rd_T41 l0 (k : Int)) ((rd_T41 l0 (k : Int))).f0 a1)) (partT (rd_T41 l0 (k : Int)) a2 ((rd_T41 l0 (k : Int))).f1); omega⟩, HB2⟩
          · have c3b : decide (a2 ≤ (rd_T41 l0 (k : Int)).f0) = false := decide_eq_false c3
            rw [if_neg (by rintro (h | h | h) <;> contradiction)] at HA'
            have HA := Aside0.mk HA'
            clear HA'
            go_wp2_with (first | ((with_reducible refine gate_dst (N := 10) rfl ?_); refine box_event ?hg (N := 10) ?hd (cs := #[.int .i64 0, .int .i64 0, .int .i64 0, .int .i64 0, .int .i64 0, .int .i64 0]) (t := 41) ?hr ?_; (case hd => rfl); (case hg => rfl); (case hr => first | (go_simp; done) | (go_simp; rfl)); intro gx hgx w8 hbox hb8; have hc80 := (blk_cell hbox 0).trans (rfl : _ = some (Value.int .i64 0)); have hc81 := (blk_cell hbox 1).trans (rfl : _ = some (Value.int .i64 0)); have hc82 := (blk_cell hbox 2).trans (rfl : _ = some (Value.int .i64 0)); have hc83 := (blk_cell hbox 3).trans (rfl : _ = some (Value.int .i64 0)); have hc84 := (blk_cell hbox 4).trans (rfl : _ = some (Value.int .i64 0)); have hc85 := (blk_cell hbox 5).trans (rfl : _ = some (Value.int .i64 0)); have hf80 := blk_frozen hbox 0; have hf81 := blk_frozen hbox 1; have hf82 := blk_frozen hbox 2; have hf83 := blk_frozen hbox 3; have hf84 := blk_frozen hbox 4; have hf85 := blk_frozen hbox 5; have HGX := Aside0.mk hgx; have HBX := Aside0.mk hbox; have HB8 := Aside0.mk hb8; clear hgx hbox hb8) | ((with_reducible refine gate_store (t := 41) (p := 10) rfl ?_); refine store_event (t := 41) (p := 10) (v := ?vo) (w1 := ((((((w8.setCell ⟨gx, 0, none⟩ (.int .i64 (rd_T41 l0 (k : Int)).f0)).setCell ⟨gx, 1, none⟩ (.int .i64 (rd_T41 l0 (k : Int)).f1)).setCell ⟨gx, 2, none⟩ (.int .i64 (rd_T41 l0 (k : Int)).f2)).setCell ⟨gx, 3, none⟩ (.int .i64 (rd_T41 l0 (k : Int)).f3)).setCell ⟨gx, 4, none⟩ (.int .i64 (rd_T41 l0 (k : Int)).f4)).setCell ⟨gx, 5, none⟩ (.int .i64 (rd_T41 l0 (k : Int)).f5))) ?hg ?ho ?hn ?hr ?_; (case ho => rfl); (case hg => rfl); (case hn => rfl); (case hr => first | (go_simp; done) | (go_simp; rfl)); intro u1 hw9; obtain ⟨hb9, hx9⟩ := box_stored HGX.out HB8.out HBX.out hw9; have hgx := HGX.out; have ST1 := Aside0.mk (ST0.out.below hb9); have BX1 := Aside0.mk hx9; have GXB := Aside0.mk (show gx ≠ b by have := blk_lt ST0.out.bk; omega); have AX1 := Aside0.mk (ST0.out.apart (Nat.le_of_eq hgx.symm)); have HB1 := Aside0.mk (HB0.out.trans (hb9.mono (Nat.le_of_lt (blk_lt ST0.out.bk)))); clear hb9 hx9 hw9 hgx HGX HB8 HBX hc80 hc81 hc82 hc83 hc84 hc85 hf80 hf81 hf82 hf83 hf84 hf85; have hx0 := (blk_cell BX1.out 0).trans (rfl : _ = some (Value.int .i64 ((rd_T41 l0 (k : Int))).f0)); have hx1 := (blk_cell BX1.out 1).trans (rfl : _ = some (Value.int .i64 ((rd_T41 l0 (k : Int))).f1)); have hx2 := (blk_cell BX1.out 2).trans (rfl : _ = some (Value.int .i64 ((rd_T41 l0 (k : Int))).f2)); have hx3 := (blk_cell BX1.out 3).trans (rfl : _ = some (Value.int .i64 ((rd_T41 l0 (k : Int))).f3)); have hx4 := (blk_cell BX1.out 4).trans (rfl : _ = some (Value.int .i64 ((rd_T41 l0 (k : Int))).f4)); have hx5 := (blk_cell BX1.out 5).trans (rfl : _ = some (Value.int .i64 ((rd_T41 l0 (k : Int))).f5))))
            refine (region_part.calls _ _ _ _ _ _ _ _ _ _ _ _ _ _ _ (part_eq (rd_T41 l0 (k : Int)) ((rd_T41 l0 (k : Int))).f0 a1)).mono ?_
            rintro e u2 ⟨rfl, hb2⟩
            have ST2 := Aside0.mk (ST1.out.below hb2)
            have HB2 := Aside0.mk (HB1.out.trans (hb2.mono (Nat.le_of_lt (blk_lt ST1.out.bk))))
            have BX2 := Aside0.mk (blk_below BX1.out hb2)
            have AX2 := AX1
            clear hb2
            clear hx0 hx1 hx2 hx3 hx4 hx5
            have hx0 := (blk_cell BX2.out 0).trans (rfl : _ = some (Value.int .i64 ((rd_T41 l0 (k : Int))).f0))
            have hx1 := (blk_cell BX2.out 1).trans (rfl : _ = some (Value.int .i64 ((rd_T41 l0 (k : Int))).f1))
            have hx2 := (blk_cell BX2.out 2).trans (rfl : _ = some (Value.int .i64 ((rd_T41 l0 (k : Int))).f2))
            have hx3 := (blk_cell BX2.out 3).trans (rfl : _ = some (Value.int .i64 ((rd_T41 l0 (k : Int))).f3))
            have hx4 := (blk_cell BX2.out 4).trans (rfl : _ = some (Value.int .i64 ((rd_T41 l0 (k : Int))).f4))
            have hx5 := (blk_cell BX2.out 5).trans (rfl : _ = some (Value.int .i64 ((rd_T41 l0 (k : Int))).f5))
            go_wp2_with fail
            refine (put_calls (partT (rd_T41 l0 (k : Int)) ((rd_T41 l0 (k : Int))).f0 a1) b out v1 _ ST2.out (by have := HL.out; have := HLEN.out; have := HK.out; have := putT_length out (rd_T41 l0 (k : Int)); have := putT_length out (partT (rd_T41 l0 (k : Int)) ((rd_T41 l0 (k : Int))).f0 a1); omega)).mono ?_
            rintro e u3 ⟨rfl, v3, st3, pk3⟩
            have ST3 := Aside0.mk st3
            have HB3 := Aside0.mk (HB2.out.trans pk3.bel)
            have BX3 := Aside0.mk (pk3.box BX2.out GXB.out AX2.out)
            have AX3 := Aside0.mk (pk3.apart BX2.out AX2.out)
            clear st3 pk3
            clear hx0 hx1 hx2 hx3 hx4 hx5
            have hx0 := (blk_cell BX3.out 0).trans (rfl : _ = some (Value.int .i64 ((rd_T41 l0 (k : Int))).f0))
            have hx1 := (blk_cell BX3.out 1).trans (rfl : _ = some (Value.int .i64 ((rd_T41 l0 (k : Int))).f1))
            have hx2 := (blk_cell BX3.out 2).trans (rfl : _ = some (Value.int .i64 ((rd_T41 l0 (k : Int))).f2))
            have hx3 := (blk_cell BX3.out 3).trans (rfl : _ = some (Value.int .i64 ((rd_T41 l0 (k : Int))).f3))
            have hx4 := (blk_cell BX3.out 4).trans (rfl : _ = some (Value.int .i64 ((rd_T41 l0 (k : Int))).f4))
            have hx5 := (blk_cell BX3.out 5).trans (rfl : _ = some (Value.int .i64 ((rd_T41 l0 (k : Int))).f5))
            go_wp2_with fail
            refine (region_part.calls _ _ _ _ _ _ _ _ _ _ _ _ _ _ _ (part_eq (rd_T41 l0 (k : Int)) a2 ((rd_T41 l0 (k : Int))).f1)).mono ?_
            rintro e u4 ⟨rfl, hb4⟩
            have ST4 := Aside0.mk (ST3.out.below hb4)
            have HB4 := Aside0.mk (HB3.out.trans (hb4.mono (Nat.le_of_lt (blk_lt ST3.out.bk))))
            have BX4 := Aside0.mk (blk_below BX3.out hb4)
            have AX4 := AX3
            clear hb4
            clear hx0 hx1 hx2 hx3 hx4 hx5
            have hx0 := (blk_cell BX4.out 0).trans (rfl : _ = some (Value.int .i64 ((rd_T41 l0 (k : Int))).f0))
            have hx1 := (blk_cell BX4.out 1).trans (rfl : _ = some (Value.int .i64 ((rd_T41 l0 (k : Int))).f1))
            have hx2 := (blk_cell BX4.out 2).trans (rfl : _ = some (Value.int .i64 ((rd_T41 l0 (k : Int))).f2))
            have hx3 := (blk_cell BX4.out 3).trans (rfl : _ = some (Value.int .i64 ((rd_T41 l0 (k : Int))).f3))
            have hx4 := (blk_cell BX4.out 4).trans (rfl : _ = some (Value.int .i64 ((rd_T41 l0 (k : Int))).f4))
            have hx5 := (blk_cell BX4.out 5).trans (rfl : _ = some (Value.int .i64 ((rd_T41 l0 (k : Int))).f5))
            go_wp2_with fail
            refine (put_calls (partT (rd_T41 l0 (k : Int)) a2 ((rd_T41 l0 (k : Int))).f1) b (putT out (partT (rd_T41 l0 (k : Int)) ((rd_T41 l0 (k : Int))).f0 a1)) v3 _ ST4.out (by have := HL.out; have := HLEN.out; have := HK.out; have := putT_length out (rd_T41 l0 (k : Int)); have := putT_length out (partT (rd_T41 l0 (k : Int)) ((rd_T41 l0 (k : Int))).f0 a1); omega)).mono ?_
            rintro e u5 ⟨rfl, v5, st5, pk5⟩
            have ST5 := Aside0.mk st5
            have HB5 := Aside0.mk (HB4.out.trans pk5.bel)
            have BX5 := Aside0.mk (pk5.box BX4.out GXB.out AX4.out)
            have AX5 := Aside0.mk (pk5.apart BX4.out AX4.out)
            clear st5 pk5
            clear hx0 hx1 hx2 hx3 hx4 hx5
            have hx0 := (blk_cell BX5.out 0).trans (rfl : _ = some (Value.int .i64 ((rd_T41 l0 (k : Int))).f0))
            have hx1 := (blk_cell BX5.out 1).trans (rfl : _ = some (Value.int .i64 ((rd_T41 l0 (k : Int))).f1))
            have hx2 := (blk_cell BX5.out 2).trans (rfl : _ = some (Value.int .i64 ((rd_T41 l0 (k : Int))).f2))
            have hx3 := (blk_cell BX5.out 3).trans (rfl : _ = some (Value.int .i64 ((rd_T41 l0 (k : Int))).f3))
            have hx4 := (blk_cell BX5.out 4).trans (rfl : _ = some (Value.int .i64 ((rd_T41 l0 (k : Int))).f4))
            have hx5 := (blk_cell BX5.out 5).trans (rfl : _ = some (Value.int .i64 ((rd_T41 l0 (k : Int))).f5))
            go_wp2
            go_roundg k1
            case measure => omega
            case rel => exact ⟨k + 1, (putT (putT out (partT (rd_T41 l0 (k : Int)) ((rd_T41 l0 (k : Int))).f0 a1)) (partT (rd_T41 l0 (k : Int)) a2 ((rd_T41 l0 (k : Int))).f1)), v5, (by first | rfl | simp), ⟨by have := HK.out; omega⟩, HA, ST5, ⟨by have := HL.out; have := putT_length out (rd_T41 l0 (k : Int)); have := putT_length out (partT (rd_T41 l0 (k : Int)) ((rd_T41 l0 (k : Int))).f0 a1); have := putT_length (putT out (partT (rd_T41 l0 (k : Int)) ((rd_T41 l0 (k : Int))).f0 a1)) (partT (rd_T41 l0 (k : Int)) a2 ((rd_T41 l0 (k : Int))).f1); omega⟩, HB5⟩
end Go.Proofs.Ytafmeagfockdfaa.Rg
