/-
  dynamic.Bytes, called: it returns what bytesD tells.
-/
import Derived.Test.YtafmeagfockdfaaFlDy
namespace Go.Proofs.Ytafmeagfockdfaa.Fl
open Go.Proofs.Ytafmeagfockdfaa.Evs Go.RowKit Go.Proofs.YtafmeagfockdfaaW.PrintWords Go.Proofs.YtafmeagfockdfaaW.PrintLast Go.Proofs.YtafmeagfockdfaaW.PrintMore
set_option linter.unusedVariables false
set_option linter.unusedSimpArgs false

/-- The eight fields, in their order: tag, cell, value. -/
def optsD (a1 a2 a3 a4 a5 a6 a7 a8 : Int) : List (Int × Nat × Int) := [(4, 4, a4), (5, 1, a1), (6, 3, a3), (7, 5, a5), (8, 6, a6), (10, 2, a2), (14, 7, a7), (1879047669, 8, a8)]
abbrev tagsV : Value := .agg #[.int .u64 4, .int .u64 5, .int .u64 6, .int .u64 7, .int .u64 8, .int .u64 10, .int .u64 14, .int .u64 1879047669]
theorem ix0 (w : World) : (Instr.index 154 tagsV (.int .i64 0)).run Try.prog w = .ok (.int .u64 4) w := by kernel_rfl
theorem ix1 (w : World) : (Instr.index 154 tagsV (.int .i64 1)).run Try.prog w = .ok (.int .u64 5) w := by kernel_rfl
theorem ix2 (w : World) : (Instr.index 154 tagsV (.int .i64 2)).run Try.prog w = .ok (.int .u64 6) w := by kernel_rfl
theorem ix3 (w : World) : (Instr.index 154 tagsV (.int .i64 3)).run Try.prog w = .ok (.int .u64 7) w := by kernel_rfl
theorem ix4 (w : World) : (Instr.index 154 tagsV (.int .i64 4)).run Try.prog w = .ok (.int .u64 8) w := by kernel_rfl
theorem ix5 (w : World) : (Instr.index 154 tagsV (.int .i64 5)).run Try.prog w = .ok (.int .u64 10) w := by kernel_rfl
theorem ix6 (w : World) : (Instr.index 154 tagsV (.int .i64 6)).run Try.prog w = .ok (.int .u64 14) w := by kernel_rfl
theorem ix7 (w : World) : (Instr.index 154 tagsV (.int .i64 7)).run Try.prog w = .ok (.int .u64 1879047669) w := by kernel_rfl
theorem opts_at (v : Value) (a1 a2 a3 a4 a5 a6 a7 a8 : Int) (j : Nat) (h : j < 8) : ∃ tag ix fv, (∀ w, (Instr.index 154 tagsV (.int .i64 (j : Int))).run Try.prog w = .ok (.int .u64 tag) w) ∧ 0 ≤ tag ∧ (∀ b, fieldP b tag = some ⟨b, ix, none⟩) ∧
    (#[v, .int .i64 a1, .int .i64 a2, .int .i64 a3, .int .i64 a4, .int .i64 a5, .int .i64 a6, .int .i64 a7, .int .i64 a8] : Array Value)[ix]? = some (.int .i64 fv) ∧ (optsD a1 a2 a3 a4 a5 a6 a7 a8).drop j = (tag, ix, fv) :: (optsD a1 a2 a3 a4 a5 a6 a7 a8).drop (j + 1) := by
  match j, h with
  | 0, _ => exact ⟨4, 4, a4, ix0, by decide, fun _ => rfl, rfl, rfl⟩
  | 1, _ => exact ⟨5, 1, a1, ix1, by decide, fun _ => rfl, rfl, rfl⟩
  | 2, _ => exact ⟨6, 3, a3, ix2, by decide, fun _ => rfl, rfl, rfl⟩
  | 3, _ => exact ⟨7, 5, a5, ix3, by decide, fun _ => rfl, rfl, rfl⟩
  | 4, _ => exact ⟨8, 6, a6, ix4, by decide, fun _ => rfl, rfl, rfl⟩
  | 5, _ => exact ⟨10, 2, a2, ix5, by decide, fun _ => rfl, rfl, rfl⟩
  | 6, _ => exact ⟨14, 7, a7, ix6, by decide, fun _ => rfl, rfl, rfl⟩
  | 7, _ => exact ⟨1879047669, 8, a8, ix7, by decide, fun _ => rfl, rfl, rfl⟩
/-- What the rest of the fields adds. -/
def restD (l : List (Int × Nat × Int)) : List UInt8 := l.flatMap fun x => optE x.1 x.2.2
theorem bytesD_eq (l : List Int) (a1 a2 a3 a4 a5 a6 a7 a8 : Int) : bytesD l a1 a2 a3 a4 a5 a6 a7 a8 = l.flatMap (fun n => ent 1 n) ++ (restD (optsD a1 a2 a3 a4 a5 a6 a7 a8) ++ ((if a6 > 0 then ent 9 24 else []) ++ ((if a3 > 0 then ent 11 24 else []) ++ ent 0 0))) := by
  simp [bytesD, restD, optsD]
theorem flat_length (l : List Int) : (l.flatMap (fun n => ent 1 n)).length = 16 * l.length := by
  induction l with
  | nil => rfl
  | cons x l ih => simp only [List.flatMap_cons, List.length_append, ent_length, List.length_cons, ih]; omega
theorem optE_length (t n : Int) : (optE t n).length ≤ 16 := by unfold optE; split <;> simp [ent_length]
theorem restD_length (l : List (Int × Nat × Int)) : (restD l).length ≤ 16 * l.length := by
  induction l with
  | nil => simp [restD]
  | cons x l ih =>
    have := optE_length x.1 x.2.2
    simp only [restD, List.flatMap_cons, List.length_append, List.length_cons] at ih ⊢
    omega
theorem restD_snoc (l : List (Int × Nat × Int)) (x : Int × Nat × Int) : restD (l ++ [x]) = restD l ++ optE x.1 x.2.2 := by simp [restD]
theorem take_of_drop {α : Type} {l : List α} {j : Nat} {x : α} (h : l.drop j = x :: l.drop (j + 1)) : l.take (j + 1) = l.take j ++ [x] := by
  have hj : j < l.length := by
    by_cases hc : j < l.length
    · exact hc
    · rw [List.drop_of_length_le (by omega)] at h; cases h
  rw [List.drop_eq_getElem_cons hj] at h
  injection h with h
  rw [List.take_succ_eq_append_getElem hj, h]
theorem opts_le {a1 a2 a3 a4 a5 a6 a7 a8 : Int} (h : a1 ≤ 9223372036854775807 ∧ a2 ≤ 9223372036854775807 ∧ a3 ≤ 9223372036854775807 ∧ a4 ≤ 9223372036854775807 ∧ a5 ≤ 9223372036854775807 ∧ a6 ≤ 9223372036854775807 ∧ a7 ≤ 9223372036854775807 ∧ a8 ≤ 9223372036854775807)
    (j : Nat) (hj : j < 8) {tag : Int} {ix : Nat} {fv : Int} (e : (optsD a1 a2 a3 a4 a5 a6 a7 a8).drop j = (tag, ix, fv) :: (optsD a1 a2 a3 a4 a5 a6 a7 a8).drop (j + 1)) : fv ≤ 9223372036854775807 := by
  obtain ⟨h1, h2, h3, h4, h5, h6, h7, h8⟩ := h
  match j, hj with
  | 0, _ => simp [optsD] at e; omega
  | 1, _ => simp [optsD] at e; omega
  | 2, _ => simp [optsD] at e; omega
  | 3, _ => simp [optsD] at e; omega
  | 4, _ => simp [optsD] at e; omega
  | 5, _ => simp [optsD] at e; omega
  | 6, _ => simp [optsD] at e; omega
  | 7, _ => simp [optsD] at e; omega
def dynamic_Bytes.f (l0 : List Int) (a1 a2 a3 a4 a5 a6 a7 a8 : Int) : Option ByteArray :=
  if l0.length < 1000000 ∧ (∀ x ∈ l0, x ≤ 9223372036854775807) ∧ (a1 ≤ 9223372036854775807 ∧ a2 ≤ 9223372036854775807 ∧ a3 ≤ 9223372036854775807 ∧ a4 ≤ 9223372036854775807 ∧ a5 ≤ 9223372036854775807 ∧ a6 ≤ 9223372036854775807 ∧ a7 ≤ 9223372036854775807 ∧ a8 ≤ 9223372036854775807) then some ⟨(bytesD l0 a1 a2 a3 a4 a5 a6 a7 a8).toArray⟩ else none
structure BytW (gd gb : Nat) (A : Option Addr) (n c : Nat) (a1 a2 a3 a4 a5 a6 a7 a8 : Int) (bs : List UInt8) (w W : World) : Prop where
  bd : W.heap[gd]? = some (.cells #[.slice A n c, .int .i64 a1, .int .i64 a2, .int .i64 a3, .int .i64 a4, .int .i64 a5, .int .i64 a6, .int .i64 a7, .int .i64 a8] 54 (0, 0))
  bl : Lib.IsBuilder 147 5 gb gb (Lib.byteCells bs) W
  bel : Below w.heap.size w W
  lo : w.heap.size ≤ gd
  ne : gd < gb
  sz : gb ≤ W.heap.size
theorem BytW.put {gd gb : Nat} {A : Option Addr} {n c : Nat} {a1 a2 a3 a4 a5 a6 a7 a8 : Int} {bs bs' : List UInt8} {w W W' : World} (h : BytW gd gb A n c a1 a2 a3 a4 a5 a6 a7 a8 bs w W)
    (h1 : Lib.IsBuilder 147 5 gb gb (Lib.byteCells bs ++ Lib.byteCells bs') W') (h2 : Below gb W W') : BytW gd gb A n c a1 a2 a3 a4 a5 a6 a7 a8 (bs ++ bs') w W' :=
  ⟨(h2.block gd h.ne).trans h.bd, by rw [Lib.byteCells_append]; exact h1, h.bel.trans (h2.mono (Nat.le_trans h.lo (Nat.le_of_lt h.ne))), h.lo, h.ne, Nat.le_trans h.sz h2.size⟩
set_option maxHeartbeats 4000000 in
set_option maxRecDepth 100000 in
theorem bytes_main (A0 : Option Addr) (c0 : Nat) (l0 : List Int) (a1 a2 a3 a4 a5 a6 a7 a8 : Int) (w : World) (hr0 : Kd.C (Kd.int .i64) w A0 l0.length l0) (hlen : l0.length < 1000000) (hm : ∀ x ∈ l0, x ≤ 9223372036854775807)
    (ha : a1 ≤ 9223372036854775807 ∧ a2 ≤ 9223372036854775807 ∧ a3 ≤ 9223372036854775807 ∧ a4 ≤ 9223372036854775807 ∧ a5 ≤ 9223372036854775807 ∧ a6 ≤ 9223372036854775807 ∧ a7 ≤ 9223372036854775807 ∧ a8 ≤ 9223372036854775807) :
    Calls Try.prog 49 #[.agg #[.slice A0 l0.length c0, .int .i64 a1, .int .i64 a2, .int .i64 a3, .int .i64 a4, .int .i64 a5, .int .i64 a6, .int .i64 a7, .int .i64 a8]] w fun e w' => e = .returned (.string ⟨(bytesD l0 a1 a2 a3 a4 a5 a6 a7 a8).toArray⟩) ∧ Below w.heap.size w w' := by
  have HR0 := Aside0.mk hr0
  have HM := Aside0.mk hm
  have HLEN := Aside0.mk hlen
  have HAA := Aside0.mk ha
  clear hr0 hlen hm ha
  go_enter Try.func49, Try.ntmps49
  go_wp2_with (first | ((with_reducible refine gate_dst (N := 1) rfl ?_); refine box_event ?hg (N := 1) ?hd (cs := #[.slice A0 l0.length c0, .int .i64 a1, .int .i64 a2, .int .i64 a3, .int .i64 a4, .int .i64 a5, .int .i64 a6, .int .i64 a7, .int .i64 a8]) (t := 54) ?hr ?_; (case hd => rfl); (case hg => rfl); (case hr => first | (go_simp; done) | (go_simp; rfl)); intro gd hgd w1 hbox hb1; have BD := Aside0.mk hbox; have HW1 := Aside0.mk hb1; have GD := Aside0.mk hgd; clear hbox hb1 hgd) | ((with_reducible refine gate_dst (N := 3) rfl ?_); refine box_event ?hg (N := 3) ?hd (cs := #[.pointer none, .slice none 0 0]) (t := 147) ?hr ?_; (case hd => rfl); (case hg => rfl); (case hr => first | (go_simp; done) | (go_simp; rfl)); intro gb hgb w2 hbox hb2; have HO := Aside0.mk (show BytW gd gb A0 l0.length c0 a1 a2 a3 a4 a5 a6 a7 a8 [] w w2 from ⟨blk_below BD.out hb2, .inl ⟨Nat.le_refl _, _, hbox, World.ownsRow_nil _ _ _ _, by simp [Value.ownBlock]⟩, HW1.out.trans (hb2.mono HW1.out.size), Nat.le_of_eq GD.out.symm, by have := blk_lt BD.out; omega, by have := hb2.size; omega⟩); clear hbox hb2 hgb BD HW1 GD; have hd0 := (blk_cell HO.out.bd 0).trans (rfl : _ = some (Value.slice A0 l0.length c0))))
  have hrest : ∀ l, (restD l).length ≤ 16 * l.length := restD_length
  clear hrest
  go_loopg [14] l0.length (fun kq v14 wr => ∃ (i : Nat), v14 = .int .i64 (i : Int) ∧ Aside0 (i + kq = l0.length) ∧ Aside0 (BytW gd gb A0 l0.length c0 a1 a2 a3 a4 a5 a6 a7 a8 ((l0.take i).flatMap (fun n => ent 1 n)) w wr))
  case atStart => exact ⟨0, rfl, ⟨by omega⟩, HO⟩
  case round =>
    clear HO hd0
    obtain ⟨i, rfl, HK, HO⟩ := hrel
    cases gk with
    | zero =>
      have hi : i = l0.length := by have := HK.out; omega
      subst hi
      have HO0 := Aside0.mk (show BytW gd gb A0 l0.length c0 a1 a2 a3 a4 a5 a6 a7 a8 (l0.flatMap (fun n => ent 1 n)) w wr by have h := HO.out; rw [List.take_length] at h; exact h)
      clear HO HK
      go_wp2
      go_loopg [23] 8 (fun kq v23 wr => ∃ (j : Nat), v23 = .int .i64 (j : Int) ∧ Aside0 (j + kq = 8) ∧ Aside0 (BytW gd gb A0 l0.length c0 a1 a2 a3 a4 a5 a6 a7 a8 (l0.flatMap (fun n => ent 1 n) ++ restD ((optsD a1 a2 a3 a4 a5 a6 a7 a8).take j)) w wr))
      case atStart => exact ⟨0, rfl, ⟨by omega⟩, ⟨by have h := HO0.out; simpa [restD] using h⟩⟩
      case round =>
        clear HO0
        obtain ⟨j, rfl, HK, HO⟩ := hrel
        cases gk with
        | zero =>
          have hj : j = 8 := by have := HK.out; omega
          subst hj
          have HO1 := Aside0.mk (show BytW gd gb A0 l0.length c0 a1 a2 a3 a4 a5 a6 a7 a8 (l0.flatMap (fun n => ent 1 n) ++ restD (optsD a1 a2 a3 a4 a5 a6 a7 a8)) w wr from HO.out)
          clear HO HK
          have HL := Aside0.mk (show (l0.flatMap (fun n => ent 1 n) ++ restD (optsD a1 a2 a3 a4 a5 a6 a7 a8)).length ≤ 16 * l0.length + 128 by rw [List.length_append, flat_length]; have := restD_length (optsD a1 a2 a3 a4 a5 a6 a7 a8); have : (optsD a1 a2 a3 a4 a5 a6 a7 a8).length = 8 := rfl; omega)
          have HEQ := Aside0.mk (bytesD_eq l0 a1 a2 a3 a4 a5 a6 a7 a8)
          obtain ⟨bs, hbs⟩ : ∃ bs, l0.flatMap (fun n => ent 1 n) ++ restD (optsD a1 a2 a3 a4 a5 a6 a7 a8) = bs := ⟨_, rfl⟩
          rw [hbs] at HO1 HL
          replace HEQ := Aside0.mk (HEQ.out.trans (by rw [← List.append_assoc, hbs]) : bytesD l0 a1 a2 a3 a4 a5 a6 a7 a8 = bs ++ ((if a6 > 0 then ent 9 24 else []) ++ ((if a3 > 0 then ent 11 24 else []) ++ ent 0 0)))
          clear hbs
          have hd6 := (blk_cell HO1.out.bd 6).trans (rfl : _ = some (Value.int .i64 a6))
          have hd3 := (blk_cell HO1.out.bd 3).trans (rfl : _ = some (Value.int .i64 a3))
          have hgt : ∀ (x : Int), decide (0 < x) = decide (0 < x) := fun _ => rfl
          clear hgt
          by_cases c6 : a6 > 0
          · have c6b : decide (0 < a6) = true := decide_eq_true c6
            go_wp2_with fail
            refine (dput_calls 9 24 (by decide) (by decide) gb gb _ _ HO1.out.bl (by have := HL.out; have := HLEN.out; rw [Lib.byteCells_length]; omega) HO1.out.sz).mono ?_
            rintro e u2 ⟨rfl, hb1, hb2⟩
            have HO2 := Aside0.mk (HO1.out.put hb1 hb2)
            clear hb1 hb2
            have HL2 := Aside0.mk (show (bs ++ ent 9 24).length ≤ 16 * l0.length + 144 by rw [List.length_append, ent_length]; have := HL.out; omega)
            clear HL hd6 hd3
            have HL := HL2
            clear HL2
            have hd6 := (blk_cell HO2.out.bd 6).trans (rfl : _ = some (Value.int .i64 a6))
            have hd3 := (blk_cell HO2.out.bd 3).trans (rfl : _ = some (Value.int .i64 a3))
            by_cases c3 : a3 > 0
            · have c3b : decide (0 < a3) = true := decide_eq_true c3
              go_wp2_with fail
              refine (dput_calls 11 24 (by decide) (by decide) gb gb _ _ HO2.out.bl (by have := HL.out; have := HLEN.out; rw [Lib.byteCells_length]; omega) HO2.out.sz).mono ?_
              rintro e u3 ⟨rfl, hb1, hb2⟩
              have HO3 := Aside0.mk (HO2.out.put hb1 hb2)
              clear hb1 hb2
              have HL3 := Aside0.mk (show (bs ++ ent 9 24 ++ ent 11 24).length ≤ 16 * l0.length + 160 by rw [List.length_append, ent_length]; have := HL.out; omega)
              clear HL
              have HL := HL3
              clear HL3
              go_wp2_with fail
              refine (dput_calls 0 0 (by decide) (by decide) gb gb _ _ HO3.out.bl (by have := HL.out; have := HLEN.out; rw [Lib.byteCells_length]; omega) HO3.out.sz).mono ?_
              rintro e u4 ⟨rfl, hb1, hb2⟩
              have HO4 := Aside0.mk (HO3.out.put hb1 hb2)
              clear hb1 hb2
              go_wp2_with fail
              refine (Try.Builder_String_any gb gb (bs ++ ent 9 24 ++ ent 11 24 ++ ent 0 0) _ HO4.out.bl HO4.out.sz).mono ?_
              rintro e u5 ⟨rfl, hb5⟩
              have HB5 := Aside0.mk (HO4.out.bel.trans (hb5.mono (Nat.le_trans HO4.out.lo (Nat.le_of_lt HO4.out.ne))))
              clear hb5
              go_wp2
              go_ret
              refine ⟨?_, HB5.out⟩
              rw [HEQ.out, if_pos (show a6 > 0 by omega), if_pos (show a3 > 0 by omega)]
              simp
            · have c3b : decide (0 < a3) = false := decide_eq_false c3
              go_wp2_with fail
              refine (dput_calls 0 0 (by decide) (by decide) gb gb _ _ HO2.out.bl (by have := HL.out; have := HLEN.out; rw [Lib.byteCells_length]; omega) HO2.out.sz).mono ?_
              rintro e u4 ⟨rfl, hb1, hb2⟩
              have HO4 := Aside0.mk (HO2.out.put hb1 hb2)
              clear hb1 hb2
              go_wp2_with fail
              refine (Try.Builder_String_any gb gb (bs ++ ent 9 24 ++ ent 0 0) _ HO4.out.bl HO4.out.sz).mono ?_
              rintro e u5 ⟨rfl, hb5⟩
              have HB5 := Aside0.mk (HO4.out.bel.trans (hb5.mono (Nat.le_trans HO4.out.lo (Nat.le_of_lt HO4.out.ne))))
              clear hb5
              go_wp2
              go_ret
              refine ⟨?_, HB5.out⟩
              rw [HEQ.out, if_pos (show a6 > 0 by omega), if_neg (show ¬ a3 > 0 by omega)]
              simp
          · have c6b : decide (0 < a6) = false := decide_eq_false c6
            by_cases c3 : a3 > 0
            · have c3b : decide (0 < a3) = true := decide_eq_true c3
              go_wp2_with fail
              refine (dput_calls 11 24 (by decide) (by decide) gb gb _ _ HO1.out.bl (by have := HL.out; have := HLEN.out; rw [Lib.byteCells_length]; omega) HO1.out.sz).mono ?_
              rintro e u3 ⟨rfl, hb1, hb2⟩
              have HO3 := Aside0.mk (HO1.out.put hb1 hb2)
              clear hb1 hb2
              have HL3 := Aside0.mk (show (bs ++ ent 11 24).length ≤ 16 * l0.length + 160 by rw [List.length_append, ent_length]; have := HL.out; omega)
              clear HL
              have HL := HL3
              clear HL3
              go_wp2_with fail
              refine (dput_calls 0 0 (by decide) (by decide) gb gb _ _ HO3.out.bl (by have := HL.out; have := HLEN.out; rw [Lib.byteCells_length]; omega) HO3.out.sz).mono ?_
              rintro e u4 ⟨rfl, hb1, hb2⟩
              have HO4 := Aside0.mk (HO3.out.put hb1 hb2)
              clear hb1 hb2
              go_wp2_with fail
              refine (Try.Builder_String_any gb gb (bs ++ ent 11 24 ++ ent 0 0) _ HO4.out.bl HO4.out.sz).mono ?_
              rintro e u5 ⟨rfl, hb5⟩
              have HB5 := Aside0.mk (HO4.out.bel.trans (hb5.mono (Nat.le_trans HO4.out.lo (Nat.le_of_lt HO4.out.ne))))
              clear hb5
              go_wp2
              go_ret
              refine ⟨?_, HB5.out⟩
              rw [HEQ.out, if_neg (show ¬ a6 > 0 by omega), if_pos (show a3 > 0 by omega)]
              simp
            · have c3b : decide (0 < a3) = false := decide_eq_false c3
              go_wp2_with fail
              refine (dput_calls 0 0 (by decide) (by decide) gb gb _ _ HO1.out.bl (by have := HL.out; have := HLEN.out; rw [Lib.byteCells_length]; omega) HO1.out.sz).mono ?_
              rintro e u4 ⟨rfl, hb1, hb2⟩
              have HO4 := Aside0.mk (HO1.out.put hb1 hb2)
              clear hb1 hb2
              go_wp2_with fail
              refine (Try.Builder_String_any gb gb (bs ++ ent 0 0) _ HO4.out.bl HO4.out.sz).mono ?_
              rintro e u5 ⟨rfl, hb5⟩
              have HB5 := Aside0.mk (HO4.out.bel.trans (hb5.mono (Nat.le_trans HO4.out.lo (Nat.le_of_lt HO4.out.ne))))
              clear hb5
              go_wp2
              go_ret
              refine ⟨?_, HB5.out⟩
              rw [HEQ.out, if_neg (show ¬ a6 > 0 by omega), if_neg (show ¬ a3 > 0 by omega)]
              simp
        | succ k1 =>
          obtain ⟨tag, ix, fv, hix, ht0, hfp, hcell, hdrop⟩ := opts_at (.slice A0 l0.length c0) a1 a2 a3 a4 a5 a6 a7 a8 j (by have := HK.out; omega)
          have hj8 : (j : Int) < 8 := by have := HK.out; omega
          have hld := (blk_cell HO.out.bd ix).trans hcell
          have HT0 := Aside0.mk ht0
          have hfg := hfp gd
          have HFV := Aside0.mk (show fv ≤ 9223372036854775807 from opts_le HAA.out j (by have := HK.out; omega) hdrop)
          have HTK := Aside0.mk (take_of_drop hdrop)
          have HL := Aside0.mk (show (l0.flatMap (fun n => ent 1 n) ++ restD ((optsD a1 a2 a3 a4 a5 a6 a7 a8).take j)).length ≤ 16 * l0.length + 128 by rw [List.length_append, flat_length]; have := restD_length ((optsD a1 a2 a3 a4 a5 a6 a7 a8).take j); have : ((optsD a1 a2 a3 a4 a5 a6 a7 a8).take j).length ≤ 8 := (by rw [List.length_take]; exact Nat.le_trans (Nat.min_le_right _ _) (Nat.le_of_eq rfl)); omega)
          clear hcell ht0 hfp hdrop
          go_wp2_with fail
          refine (field_calls gd tag _).mono ?_
          rintro e u1 ⟨rfl, rfl⟩
          by_cases cf : fv > 0
          · have cfb : decide (0 < fv) = true := decide_eq_true cf
            go_wp2_with fail
            refine (dput_calls tag fv HT0.out HFV.out gb gb _ _ HO.out.bl (by have := HL.out; have := HLEN.out; rw [Lib.byteCells_length]; omega) HO.out.sz).mono ?_
            rintro e u2 ⟨rfl, hb1, hb2⟩
            have HO2 := Aside0.mk (HO.out.put hb1 hb2)
            clear hb1 hb2
            go_wp2
            go_roundg k1
            case measure => omega
            case rel => exact ⟨j + 1, (by first | rfl | simp), ⟨by have := HK.out; omega⟩, ⟨by have h := HO2.out; rw [HTK.out, restD_snoc, optE, if_pos cf, ← List.append_assoc]; exact h⟩⟩
          · have cfb : decide (0 < fv) = false := decide_eq_false cf
            go_wp2
            go_roundg k1
            case measure => omega
            case rel => exact ⟨j + 1, (by first | rfl | simp), ⟨by have := HK.out; omega⟩, ⟨by have h := HO.out; rw [HTK.out, restD_snoc, optE, if_neg (show ¬ fv > 0 by omega), List.append_nil]; exact h⟩⟩
    | succ k1 =>
      have hil : i < l0.length := by have := HK.out; omega
      have him : (i : Int) < (l0.length : Int) := by omega
      obtain ⟨ad, cs, ead, _, hK, hcs⟩ := Kd.C_get (Kd.C_below HR0.out HO.out.bel) (0 : Int) (i : Int) (by omega) him
      subst ead
      obtain rfl : cs = [.int .i64 (l0.getD (i : Int).toNat 0)] := hK
      have hoi := hcs 0 _ rfl
      simp only [show (Kd.int .i64).sz = 1 from rfl, Int.toNat_natCast, Nat.mul_one, Nat.add_zero] at hoi
      have HX := Aside0.mk (HM.out l0[i] (List.getElem_mem hil))
      obtain ⟨x, hx⟩ : ∃ x, l0.getD i 0 = x := ⟨_, rfl⟩
      have hx2 : l0[i] = x := by rw [← hx, List.getD_eq_getElem?_getD, List.getElem?_eq_getElem hil]; rfl
      rw [hx2] at HX
      rw [hx] at hoi
      have HTK := Aside0.mk (show l0.take (i + 1) = l0.take i ++ [x] by rw [List.take_succ_eq_append_getElem hil, hx2])
      have HL := Aside0.mk (show ((l0.take i).flatMap (fun n => ent 1 n)).length ≤ 16 * l0.length by rw [flat_length, List.length_take]; omega)
      have hm0 := HLEN.out
      clear hx hx2 hcs
      go_wp2_with fail
      refine (dput_calls 1 x (by decide) HX.out gb gb _ _ HO.out.bl (by have := HL.out; have := HLEN.out; rw [Lib.byteCells_length]; omega) HO.out.sz).mono ?_
      rintro e u2 ⟨rfl, hb1, hb2⟩
      have HO2 := Aside0.mk (HO.out.put hb1 hb2)
      clear hb1 hb2
      go_wp2
      go_roundg k1
      case measure => omega
      case rel => exact ⟨i + 1, (by first | rfl | simp), ⟨by have := HK.out; omega⟩, ⟨by have h := HO2.out; rw [HTK.out, List.flatMap_append, List.flatMap_singleton]; exact h⟩⟩
theorem dynamic_Bytes.calls (A0 : Option Addr) (c0 : Nat) (l0 : List Int) (a1 a2 a3 a4 a5 a6 a7 a8 : Int) (r : ByteArray) (w : World) (hr0 : Kd.C (Kd.int .i64) w A0 l0.length l0) (hc0 : l0.length ≤ c0) (h : dynamic_Bytes.f l0 a1 a2 a3 a4 a5 a6 a7 a8 = some r) :
    Calls Try.prog 49 #[.agg #[.slice A0 l0.length c0, .int .i64 a1, .int .i64 a2, .int .i64 a3, .int .i64 a4, .int .i64 a5, .int .i64 a6, .int .i64 a7, .int .i64 a8]] w fun e w' => e = .returned (.string r) ∧ Below w.heap.size w w' := by
  unfold dynamic_Bytes.f at h
  split at h
  · rename_i hc
    injection h with h
    subst h
    exact bytes_main A0 c0 l0 a1 a2 a3 a4 a5 a6 a7 a8 w hr0 hc.1 hc.2.1 hc.2.2
  · cases h
end Go.Proofs.Ytafmeagfockdfaa.Fl
