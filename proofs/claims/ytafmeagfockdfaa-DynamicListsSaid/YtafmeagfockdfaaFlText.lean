/-
  octet.Text, flyleafref01.Fill, over bytes.
-/
import Derived.Test.YtafmeagfockdfaaFl4
import Derived.Test.YtafmeagfockdfaaFlLe
namespace Go.Proofs.Ytafmeagfockdfaa.Fl
open Go.Proofs.Ytafmeagfockdfaa.Evs Go.RowKit Go.Proofs.YtafmeagfockdfaaW.PrintWords
set_option linter.unusedVariables false
set_option linter.unusedSimpArgs false

theorem ba_ln (s : ByteArray) : s.data.toList.length = s.size := by rw [Array.length_toList]; rfl
theorem ba_eq {s t : ByteArray} (h : s.data.toList = t.data.toList) : s = t := by
  apply ByteArray.ext
  exact Array.toList_inj.mp h
theorem ba_cut (s : ByteArray) (a b : Nat) : (s.extract a b).data.toList = (s.data.toList.drop a).take (b - a) := by
  rw [ByteArray.data_extract, Array.toList_extract]
theorem text_l0 (s : ByteArray) (hs : s.size ≤ 100000000000) (p m : Nat) (hm : m ≤ 24) (hpm : p + m < s.size) (hz : bt s ((p + m : Nat) : Int) = 0) (hnz : ∀ j, j < m → bt s ((p + j : Nat) : Int) ≠ 0) :
    ∀ (d i : Nat), i + d = m → Ev (fun k => octet_Text.l0 k s (p : Int) 24 (i : Int) false) (s.extract p (p + m), true) := by
  intro d
  induction d with
  | zero =>
    intro i hi
    have hi' : i = m := by omega
    subst hi'
    have e : wrap64 ((p : Int) + (i : Int)) = ((p + i : Nat) : Int) := by rw [w64 (by omega)]; rfl
    refine Ev.succ ?_
    simp only [octet_Text.l0, e]
    refine Ev.pos (by omega) (Ev.succ ?_)
    simp only [octet_Text.j2, e]
    refine Ev.pos (decide_eq_true (by omega)) (Ev.pos (by omega) (Ev.pos (by omega) (Ev.pos hz (Ev.pos hz (Ev.pos (by omega) (Ev.pos (by omega) (Ev.pos (by omega) (Ev.some ?_))))))))
    rw [Int.toNat_natCast, Int.toNat_natCast]
  | succ d ih =>
    intro i hi
    have e : wrap64 ((p : Int) + (i : Int)) = ((p + i : Nat) : Int) := by rw [w64 (by omega)]; rfl
    have e2 : wrap64 ((i : Int) + 1) = ((i + 1 : Nat) : Int) := by rw [w64 (by omega)]; rfl
    have h0 := hnz i (by omega)
    refine Ev.succ ?_
    simp only [octet_Text.l0, e]
    refine Ev.pos (by omega) (Ev.succ ?_)
    simp only [octet_Text.j2, e, e2]
    refine Ev.pos (decide_eq_true (by omega)) (Ev.pos (by omega) (Ev.pos (by omega) (Ev.neg h0 ?_)))
    rw [beq_eq_false_iff_ne.mpr h0]
    exact ih (i + 1) (by omega)
/-- A text that ends with a zero. -/
theorem text_ev (s : ByteArray) (hs : s.size ≤ 100000000000) (p m : Nat) (hm : m ≤ 24) (hpm : p + m < s.size) (hz : bt s ((p + m : Nat) : Int) = 0) (hnz : ∀ j, j < m → bt s ((p + j : Nat) : Int) ≠ 0) :
    Ev (fun k => octet_Text.f k s (p : Int) 24) (s.extract p (p + m), true) := by
  unfold octet_Text.f
  refine Ev.neg (by omega) (Ev.neg (by omega) (Ev.succ ?_))
  simp only [octet_Text.j0]
  exact Ev.neg (by decide) (text_l0 s hs p m hm hpm hz hnz m 0 (by omega))
theorem text_out (s : ByteArray) (p : Nat) (h : s.size ≤ p) : Ev (fun k => octet_Text.f k s (p : Int) 24) ((⟨#[]⟩ : ByteArray), false) := by
  unfold octet_Text.f
  refine Ev.neg (by omega) (Ev.pos (by omega) (Ev.succ ?_))
  simp only [octet_Text.j0]
  exact Ev.pos trivial (Ev.some rfl)
theorem fill_empty (n : Nat) (hn : n ≤ 1000000) : ∃ t, flyleafref01_Fill.f (⟨#[]⟩ : ByteArray) (n : Int) = some t ∧ t.size = n := by
  unfold flyleafref01_Fill.f
  have hz : ((⟨#[]⟩ : ByteArray).size : Int) = 0 := rfl
  have hz' : (⟨#[]⟩ : ByteArray).size = 0 := rfl
  rw [if_neg (by omega)]
  by_cases h : ((⟨#[]⟩ : ByteArray).size : Int) ≥ (n : Int)
  · rw [if_pos h, if_pos (by omega), if_pos (by omega)]
    exact ⟨_, rfl, by rw [ByteArray.size_extract]; omega⟩
  · have e : wrap64 ((n : Int) - ((⟨#[]⟩ : ByteArray).size : Int)) = (n : Int) := by rw [w64 (by omega)]; omega
    rw [if_neg h, e, if_pos (by omega), Int.toNat_natCast, if_pos (by omega), Option.bind_some]
    have hsn : (strOfNums (List.replicate n 0)).size = n := by rw [strOfNums_size, List.length_replicate]
    rw [if_pos (by omega)]
    exact ⟨_, rfl, by rw [ByteArray.size_append]; omega⟩
end Go.Proofs.Ytafmeagfockdfaa.Fl
