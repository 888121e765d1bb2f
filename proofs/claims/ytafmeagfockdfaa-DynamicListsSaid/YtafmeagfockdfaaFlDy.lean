/-
  dynamic.field; what dynamic.Bytes writes: its closure, called with a builder that the call has made.
-/
import Derived.Test.YtafmeagfockdfaaFlBld
import Derived.WalkMore
import Derived.Laws.EntriesVeiled
import Derived.Deep.QuietTactic
import Derived.BigQuiet
namespace Go.Proofs.Ytafmeagfockdfaa.Fl
open Go.Proofs.Ytafmeagfockdfaa.Evs Go.RowKit Go.Proofs.YtafmeagfockdfaaW.PrintWords Go.Proofs.YtafmeagfockdfaaW.PrintLast Go.Proofs.YtafmeagfockdfaaW.PrintMore
set_option linter.unusedVariables false
set_option linter.unusedSimpArgs false
attribute [local go_sem] max2_int min2_int max_two min_two

/-- Which cell of a table a tag sets. -/
def fieldIx (tag : Int) : Option Nat :=
  if tag = 4 then some 4 else if tag = 5 then some 1 else if tag = 6 then some 3 else if tag = 7 then some 5 else if tag = 8 then some 6 else if tag = 10 then some 2 else if tag = 14 then some 7 else if tag = 1879047669 then some 8 else none
def fieldP (b : Nat) (tag : Int) : Option Addr := (fieldIx tag).map fun i => ⟨b, i, none⟩
set_option maxHeartbeats 2000000 in
set_option maxRecDepth 100000 in
theorem field_calls (b : Nat) (tag : Int) (w : World) : Calls Try.prog 88 #[.pointer (some ⟨b, 0, none⟩), .int .u64 tag] w fun e w' => e = .returned (.pointer (fieldP b tag)) ∧ w = w' := by
  by_cases h4 : tag = 4
  · subst h4
    go_enter Try.func88, Try.ntmps88
    go_wp2
    go_ret
    exact ⟨rfl, rfl⟩
  by_cases h5 : tag = 5
  · subst h5
    go_enter Try.func88, Try.ntmps88
    go_wp2
    go_ret
    exact ⟨rfl, rfl⟩
  by_cases h6 : tag = 6
  · subst h6
    go_enter Try.func88, Try.ntmps88
    go_wp2
    go_ret
    exact ⟨rfl, rfl⟩
  by_cases h7 : tag = 7
  · subst h7
    go_enter Try.func88, Try.ntmps88
    go_wp2
    go_ret
    exact ⟨rfl, rfl⟩
  by_cases h8 : tag = 8
  · subst h8
    go_enter Try.func88, Try.ntmps88
    go_wp2
    go_ret
    exact ⟨rfl, rfl⟩
  by_cases h10 : tag = 10
  · subst h10
    go_enter Try.func88, Try.ntmps88
    go_wp2
    go_ret
    exact ⟨rfl, rfl⟩
  by_cases h14 : tag = 14
  · subst h14
    go_enter Try.func88, Try.ntmps88
    go_wp2
    go_ret
    exact ⟨rfl, rfl⟩
  by_cases hs : tag = 1879047669
  · subst hs
    go_enter Try.func88, Try.ntmps88
    go_wp2
    go_ret
    exact ⟨rfl, rfl⟩
  · have hn : fieldP b tag = none := by
      unfold fieldP fieldIx
      rw [if_neg h4, if_neg h5, if_neg h6, if_neg h7, if_neg h8, if_neg h10, if_neg h14, if_neg hs]
      rfl
    rw [hn]
    have b4 : (tag == 4) = false := beq_eq_false_iff_ne.mpr h4
    have b5 : (tag == 5) = false := beq_eq_false_iff_ne.mpr h5
    have b6 : (tag == 6) = false := beq_eq_false_iff_ne.mpr h6
    have b7 : (tag == 7) = false := beq_eq_false_iff_ne.mpr h7
    have b8 : (tag == 8) = false := beq_eq_false_iff_ne.mpr h8
    have b10 : (tag == 10) = false := beq_eq_false_iff_ne.mpr h10
    have b14 : (tag == 14) = false := beq_eq_false_iff_ne.mpr h14
    have bs : (tag == 1879047669) = false := beq_eq_false_iff_ne.mpr hs
    clear h4 h5 h6 h7 h8 h10 h14 hs hn
    go_enter Try.func88, Try.ntmps88
    go_wp2
    go_ret
    exact ⟨rfl, rfl⟩
/-- An entry's bytes. -/
def ent (tag n : Int) : List UInt8 := le tag.toNat 8 ++ le (mx n 0).toNat 8
theorem ent_length (tag n : Int) : (ent tag n).length = 16 := by simp [ent, le_length]
set_option maxHeartbeats 2000000 in
set_option maxRecDepth 100000 in
theorem dput_calls (tag n : Int) (ht : 0 ≤ tag) (hn : n ≤ 9223372036854775807) (B b : Nat) (bs : List Value) (w : World) (h : Lib.IsBuilder 147 5 B b bs w) (hlen : bs.length + 16 ≤ 140737488355328) (hB : B ≤ w.heap.size) :
    Calls Try.prog 89 #[.int .u64 tag, .int .i64 n, .pointer (some ⟨b, 0, none⟩)] w fun e w' => e = .returned (.tuple #[]) ∧ Lib.IsBuilder 147 5 B b (bs ++ Lib.byteCells (ent tag n)) w' ∧ Below B w w' := by
  obtain ⟨m, hm⟩ : ∃ m, mx n 0 = m := ⟨_, rfl⟩
  have m0 : 0 ≤ m ∧ m ≤ 9223372036854775807 := by rw [← hm]; unfold mx; split <;> omega
  obtain ⟨m1, m2⟩ := m0
  have hm_ : (if n < 0 then 0 else n) = m := hm
  obtain ⟨k1, hk1⟩ := (put_ev tag.toNat 8 (by omega)).rounds
  obtain ⟨k2, hk2⟩ := (put_ev m.toNat 8 (by omega)).rounds
  have e1 : ((tag.toNat : Nat) : Int) = tag := by omega
  have e2 : ((m.toNat : Nat) : Int) = m := by omega
  rw [e1] at hk1
  rw [e2] at hk2
  obtain ⟨s1, hs1⟩ : ∃ s, (⟨(le tag.toNat 8).toArray⟩ : ByteArray) = s := ⟨_, rfl⟩
  obtain ⟨s2, hs2⟩ : ∃ s, (⟨(le m.toNat 8).toArray⟩ : ByteArray) = s := ⟨_, rfl⟩
  rw [hs1] at hk1
  rw [hs2] at hk2
  have hz1 : s1.size ≤ 8 := by rw [← hs1, ba_size, le_length]; exact Nat.le_refl _
  have hz2 : s2.size ≤ 8 := by rw [← hs2, ba_size, le_length]; exact Nat.le_refl _
  have HS1 := Aside0.mk hs1
  have HS2 := Aside0.mk hs2
  have HK1 := Aside0.mk hk1
  have HK2 := Aside0.mk hk2
  have HM := Aside0.mk hm
  have HI := Aside0.mk h
  have HL := Aside0.mk hlen
  have HB := Aside0.mk hB
  clear hk1 hk2 hm h hlen hB e1 e2 hs1 hs2
  go_enter Try.func89, Try.ntmps89
  go_wp2_with fail
  refine (octet_Put.calls k1 tag 8 _ _ HK1.out).mono ?_
  rintro e w1 ⟨rfl, hb1⟩
  have HI1 := Aside0.mk (isbld_below HI.out hb1)
  have HB1 := Aside0.mk hb1
  clear hb1
  go_wp2_with fail
  refine (octet_Put.calls k2 m 8 _ _ HK2.out).mono ?_
  rintro e w2 ⟨rfl, hb2⟩
  have HI2 := Aside0.mk (isbld_below HI1.out hb2)
  have HB2 := Aside0.mk ((HB1.out.mono HB.out).trans (hb2.mono (Nat.le_trans HB.out HB1.out.size)))
  clear hb2
  go_wp2_with fail
  refine (Try.Builder_WriteString B b bs (s1 ++ s2) w2 HI2.out (by have := HL.out; rw [ByteArray.size_append]; omega) (Nat.le_trans HB.out HB2.out.size)).mono ?_
  rintro e w3 ⟨rfl, hb3, hb4⟩
  have HI3 := Aside0.mk hb3
  have HB3 := Aside0.mk (HB2.out.trans hb4)
  clear hb3 hb4
  go_wp2
  go_end0
  refine ⟨rfl, .inr ?_, HB3.out⟩
  have h := HI3.out
  rw [← HS1.out, ← HS2.out, ba_append, Lib.strCells_eq, ba_list] at h
  unfold ent
  rw [HM.out]
  exact h
/-- What dynamic.Bytes writes. -/
def optE (tag n : Int) : List UInt8 := if n > 0 then ent tag n else []
def bytesD (l : List Int) (a1 a2 a3 a4 a5 a6 a7 a8 : Int) : List UInt8 :=
  l.flatMap (fun n => ent 1 n) ++ (optE 4 a4 ++ (optE 5 a1 ++ (optE 6 a3 ++ (optE 7 a5 ++ (optE 8 a6 ++ (optE 10 a2 ++ (optE 14 a7 ++ (optE 1879047669 a8 ++ ((if a6 > 0 then ent 9 24 else []) ++ ((if a3 > 0 then ent 11 24 else []) ++ ent 0 0))))))))))
end Go.Proofs.Ytafmeagfockdfaa.Fl
