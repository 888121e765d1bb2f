/-
  DynamicBack, over numbers and lists: for every list, every draw of fields and every tail the statement's function comes to true.
-/
import Derived.Test.YtafmeagfockdfaaOpDynamicBack
import Derived.Test.YtafmeagfockdfaaFlBack
import Derived.Test.YtafmeagfockdfaaMask
namespace Go.Proofs.Ytafmeagfockdfaa.Pure
open Go.Proofs.Ytafmeagfockdfaa.Evs Go.RowKit Go.Proofs.Ytafmeagfockdfaa.Fl Go.Proofs.YtafmeagfockdfaaW.PrintWords
set_option linter.unusedVariables false

theorem i64_and40 (n : Int) : bits .and .i64 n 1099511627775 = n % 1099511627776 := by
  have hm : (BitVec.ofInt 64 1099511627775).toNat = 2 ^ 40 - 1 := by decide
  have key : (BitVec.ofInt 64 n &&& BitVec.ofInt 64 1099511627775).toNat = (n % ((2 ^ 64 : Nat) : Int)).toNat % 2 ^ 40 := by
    rw [BitVec.toNat_and, BitVec.toNat_ofInt, hm, Nat.and_two_pow_sub_one_eq_mod]
  show IntKind.i64.wrap ((BitVec.ofInt 64 n &&& BitVec.ofInt 64 1099511627775).toNat : Nat) = n % 1099511627776
  rw [key, IntKind.wrap_i64]
  omega
theorem ok40 (n : Int) : okA (bits .and .i64 n 1099511627775) := by rw [i64_and40]; unfold okA; omega
theorem ok24 (n : Int) : okA (wrap64 (24 * (bits .and .i64 n 1023))) ∧ (wrap64 (24 * (bits .and .i64 n 1023))).tmod 24 = 0 := by
  rw [i64_and1023, w64 (by omega)]
  unfold okA
  refine ⟨by omega, ?_⟩
  rw [Int.tmod_eq_emod_of_nonneg (by omega)]
  omega
theorem ok64 (n : Int) : okA (wrap64 ((bits .and .i64 n 4095) * 64)) := by
  rw [i64_and4095, w64 (by omega)]
  unfold okA
  omega
theorem entsD_length (l : List Int) (a1 a2 a3 a4 a5 a6 a7 a8 : Int) : (entsD l a1 a2 a3 a4 a5 a6 a7 a8).length ≤ l.length + 10 := by
  have ho : ∀ t a, (optL t a).length ≤ 1 := fun t a => by unfold optL; split <;> simp
  have hp : ∀ (t : Int) (c : Bool), (if c = true then [(t, (24 : Int))] else []).length ≤ 1 := fun t c => by cases c <;> simp
  have h1 := ho 4 a4
  have h2 := ho 5 a1
  have h3 := ho 6 a3
  have h4 := ho 7 a5
  have h5 := ho 8 a6
  have h6 := ho 10 a2
  have h7 := ho 14 a7
  have h8 := ho 1879047669 a8
  have h9 := hp 9 (decide (a6 > 0))
  have h10 := hp 11 (decide (a3 > 0))
  unfold entsD
  simp only [List.length_append, List.length_map]
  omega
theorem bytesD_length (l : List Int) (a1 a2 a3 a4 a5 a6 a7 a8 : Int) : 16 ≤ (bytesD l a1 a2 a3 a4 a5 a6 a7 a8).length ∧ (bytesD l a1 a2 a3 a4 a5 a6 a7 a8).length ≤ 16 * l.length + 176 := by
  have := entsD_length l a1 a2 a3 a4 a5 a6 a7 a8
  rw [bytesD_ents, List.length_append, flatE_length, ent_length]
  omega
theorem bytes_f (l : List Int) (a1 a2 a3 a4 a5 a6 a7 a8 : Int) (hl : ∀ x ∈ l, okA x) (hn : l.length ≤ 64) (h1 : okA a1) (h2 : okA a2) (h3 : okA a3) (h4 : okA a4) (h5 : okA a5) (h6 : okA a6) (h7 : okA a7) (h8 : okA a8) :
    dynamic_Bytes.f l a1 a2 a3 a4 a5 a6 a7 a8 = some ⟨(bytesD l a1 a2 a3 a4 a5 a6 a7 a8).toArray⟩ := by
  unfold okA at *
  unfold dynamic_Bytes.f
  exact if_pos ⟨by omega, fun x hx => by have := hl x hx; omega, by omega, by omega, by omega, by omega, by omega, by omega, by omega, by omega⟩
theorem read_f (s : ByteArray) (hs : s.size ≤ 100000000000) (l : List Int) (a1 a2 a3 a4 a5 a6 a7 a8 z : Int) (h : rdOut s = (l, [a1, a2, a3, a4, a5, a6, a7, a8], z)) : dynamic_Read.f s = some (l, a1, a2, a3, a4, a5, a6, a7, a8, z) := by
  unfold dynamic_Read.f
  rw [if_pos hs, h]
  rfl
theorem okz : okA 0 := by unfold okA; omega
theorem awake09 : flyleaflaw09_awake.f = some true := by
  unfold flyleaflaw09_awake.f
  have h3 : ∀ x ∈ [(3 : Int)], okA x := fun x hx => by rw [List.mem_singleton] at hx; subst hx; unfold okA; omega
  have hb := bytesD_length [3] 0 0 0 0 0 0 0 0
  have hr0 : rdOut (⟨#[]⟩ : ByteArray) = ([], [0, 0, 0, 0, 0, 0, 0, 0], 17) := by
    unfold rdOut
    rw [if_neg]
    rintro ⟨h, _⟩
    unfold rdAll at h
    rw [run_cut (by decide)] at h
    cases h
  rw [bytes_f [3] 0 0 0 0 0 0 0 0 h3 (by decide) okz okz okz okz okz okz okz okz, Option.bind_some]
  rw [read_f _ (by rw [ba_size]; simp only [List.length_singleton] at hb; omega) _ _ _ _ _ _ _ _ _ _ (read_back [3] 0 0 0 0 0 0 0 0 [] _ (by rw [List.append_nil]) h3 (by decide) okz okz okz okz okz okz okz okz rfl), Option.bind_some]
  rw [read_f _ (by decide) _ _ _ _ _ _ _ _ _ _ hr0, Option.bind_some]
  rfl
theorem short_f (s : ByteArray) (n : Nat) : ∃ t, flyleaflaw09_short.f s (n : Int) = some t ∧ t.size ≤ n := by
  unfold flyleaflaw09_short.f
  by_cases h : (s.size : Int) > (n : Int)
  · rw [if_pos h, if_pos (by omega), if_pos (by omega)]
    exact ⟨_, rfl, by rw [ByteArray.size_extract]; omega⟩
  · rw [if_neg h]
    exact ⟨_, rfl, by omega⟩
namespace Back
theorem j1_ev (x2 : ByteArray) (l : List Int) (a1 a2 a3 a4 a5 a6 a7 a8 : Int) (hl : ∀ x ∈ l, okA x) (hn : l.length ≤ 64) (h1 : okA a1) (h2 : okA a2) (h3 : okA a3) (h4 : okA a4) (h5 : okA a5) (h6 : okA a6) (h7 : okA a7) (h8 : okA a8) (h24 : a6.tmod 24 = 0) :
    Ev (fun k => flyleaflaw09_DynamicBack.j1 k x2 true l a1 a2 a3 a4 a5 a6 a7 a8) true := by
  refine Ev.succ ?_
  simp only [flyleaflaw09_DynamicBack.j1]
  obtain ⟨t, ht, hts⟩ := short_f x2 40
  obtain ⟨hb1, hb2⟩ := bytesD_length l a1 a2 a3 a4 a5 a6 a7 a8
  have hB := bytes_f l a1 a2 a3 a4 a5 a6 a7 a8 hl hn h1 h2 h3 h4 h5 h6 h7 h8
  have hsz : (⟨(bytesD l a1 a2 a3 a4 a5 a6 a7 a8).toArray⟩ : ByteArray).size = (bytesD l a1 a2 a3 a4 a5 a6 a7 a8).length := ba_size _
  obtain ⟨B, hBe⟩ : ∃ B : ByteArray, (⟨(bytesD l a1 a2 a3 a4 a5 a6 a7 a8).toArray⟩ : ByteArray) = B := ⟨_, rfl⟩
  have hBl : B.data.toList = bytesD l a1 a2 a3 a4 a5 a6 a7 a8 := by rw [← hBe]
  rw [hBe] at hB hsz
  have r1 : dynamic_Read.f (B ++ t) = some (l, a1, a2, a3, a4, a5, a6, a7, a8, 0) :=
    read_f _ (by rw [ByteArray.size_append]; omega) _ _ _ _ _ _ _ _ _ _ (read_back l a1 a2 a3 a4 a5 a6 a7 a8 t.data.toList _ (by rw [← hBl]; simp) hl hn h1 h2 h3 h4 h5 h6 h7 h8 h24)
  have hw : wrap64 ((B.size : Int) - 1) = ((B.size - 1 : Nat) : Int) := by rw [w64 (by omega)]; omega
  have r2 : dynamic_Read.f (B.extract 0 (B.size - 1)) = some ([], 0, 0, 0, 0, 0, 0, 0, 0, 17) :=
    read_f _ (by rw [ByteArray.size_extract]; omega) _ _ _ _ _ _ _ _ _ _ (read_cut l a1 a2 a3 a4 a5 a6 a7 a8 _ (by rw [← hBl, ba_len, ByteArray.data_extract, Array.toList_extract]; simp [List.extract]) hl hn h1 h2 h3 h4 h5 h6 h7 h8)
  refine Ev.pure hB (Ev.pure ht (Ev.pos (by omega) (Ev.pure r1 (Ev.pure hB (Ev.neg (by omega) ?_)))))
  rw [hw]
  refine Ev.pos (by omega) (Ev.pos (by omega) ?_)
  rw [Int.toNat_natCast]
  refine Ev.pure r2 (Ev.pos trivial (Ev.pos rfl ?_))
  refine Ev.pure (a := true) ?_ (Ev.pos rfl (Ev.some rfl))
  unfold dynamic_Same.f
  rw [if_pos ⟨by simp only; omega, by omega⟩]
  simp
theorem l0_ev (x0 : List Int) (x2 : ByteArray) (a1 a2 a3 a4 a5 a6 a7 a8 : Int) (h1 : okA a1) (h2 : okA a2) (h3 : okA a3) (h4 : okA a4) (h5 : okA a5) (h6 : okA a6) (h7 : okA a7) (h8 : okA a8) (h24 : a6.tmod 24 = 0) : ∀ (d i : Nat) (l : List Int), i + d = 64 → l.length = i → (∀ x ∈ l, okA x) →
    Ev (fun k => flyleaflaw09_DynamicBack.l0 k x0 x2 true 1099511627775 (i : Int) l a1 a2 a3 a4 a5 a6 a7 a8) true := by
  intro d
  induction d with
  | zero =>
    intro i l hi hl hx
    refine Ev.succ ?_
    simp only [flyleaflaw09_DynamicBack.l0]
    have next := j1_ev x2 l a1 a2 a3 a4 a5 a6 a7 a8 hx (by omega) h1 h2 h3 h4 h5 h6 h7 h8 h24
    by_cases hc : (i : Int) < (x0.length : Int)
    · exact Ev.pos hc (Ev.neg (by omega) next)
    · exact Ev.neg hc next
  | succ d ih =>
    intro i l hi hl hx
    refine Ev.succ ?_
    simp only [flyleaflaw09_DynamicBack.l0]
    by_cases hc : (i : Int) < (x0.length : Int)
    · refine Ev.pos hc (Ev.pos (by omega) (Ev.pos (by omega) (Ev.pos (by omega) ?_)))
      rw [show wrap64 ((i : Int) + 1) = ((i + 1 : Nat) : Int) by rw [w64 (by omega)]; rfl]
      refine ih (i + 1) _ (by omega) (by simp [hl]) (fun x hm => ?_)
      rcases List.mem_append.mp hm with h | h
      · exact hx x h
      · rw [List.mem_singleton] at h
        subst h
        exact ok40 _
    · exact Ev.neg hc (j1_ev x2 l a1 a2 a3 a4 a5 a6 a7 a8 hx (by omega) h1 h2 h3 h4 h5 h6 h7 h8 h24)
end Back
theorem DynamicBack : DynamicBack.Said := by
  intro x0 x1 x2 _ _ _
  refine Ev.rounds (g := fun k => flyleaflaw09_DynamicBack.f k x0 x1.f0 x1.f1 x1.f2 x1.f3 x1.f4 x1.f5 x1.f6 x2) ?_
  unfold flyleaflaw09_DynamicBack.f
  refine Ev.pure awake09 ?_
  exact Back.l0_ev x0 x2 _ _ _ _ _ _ _ _ (ok40 _) (ok40 _) (ok40 _) (ok40 _) (ok40 _) (ok24 _).1 (ok40 _) (ok64 _) (ok24 _).2 64 0 [] rfl rfl (fun x h => by cases h)
end Go.Proofs.Ytafmeagfockdfaa.Pure
