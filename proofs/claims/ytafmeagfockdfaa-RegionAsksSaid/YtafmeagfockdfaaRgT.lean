/-
  Region: what the row's closures do, told of lists.
-/
import Derived.Test.YtafmeagfockdfaaRg3
import Derived.Test.YtafmeagfockdfaaRg4
namespace Go.Proofs.Ytafmeagfockdfaa.Rg
open Go.RowKit Go.Proofs.YtafmeagfockdfaaW.PrintWords

set_option linter.unusedSimpArgs false
/-- May one be? -/
def mayT (r : S41) : Bool :=
  if r.f0 < 0 ∨ r.f1 ≤ r.f0 ∨ r.f1 > 4096 ∨ r.f2 < 0 ∨ r.f2 > 7 then false
  else if r.f3 = 1 then decide (0 ≤ r.f4) && (decide (0 ≤ r.f5) && decide (r.f5 ≤ wrap64 (1073741824 - wrap64 (r.f1 - r.f0))))
  else decide (1 < r.f3) && (decide (r.f3 ≤ 4) && (decide (r.f4 = -1) && decide (r.f5 = 0)))
theorem may_eq (k : Nat) (r : S41) : region_may.f (k + 1) r.f0 r.f1 r.f2 r.f3 r.f4 r.f5 = some (mayT r) := by
  obtain ⟨r0, r1, r2, r3, r4, r5⟩ := r
  unfold region_may.f region_may.j0 mayT
  simp only []
  by_cases h0 : r0 < 0
  · simp [h0]
  by_cases h1 : r1 ≤ r0
  · simp [h0, h1]
  by_cases h2 : r1 > 4096
  · simp [h0, h1, h2]
  by_cases h3 : r2 < 0
  · simp [h0, h1, h2, h3]
  by_cases h4 : r2 > 7
  · simp [h0, h1, h2, h3, h4]
  by_cases h5 : r3 = 1
  · by_cases h6 : r4 ≥ 0
    · by_cases h7 : r5 ≥ 0
      · simp [h0, h1, h2, h3, h4, h5, h6, h7]
      · simp [h0, h1, h2, h3, h4, h5, h6, h7]
    · simp [h0, h1, h2, h3, h4, h5, h6]
  · by_cases h6 : r3 > 1
    · by_cases h7 : r3 ≤ 4
      · by_cases h8 : r4 = -1
        · by_cases h9 : r5 = 0 <;> simp [h0, h1, h2, h3, h4, h5, h6, h7, h8, h9]
        · simp [h0, h1, h2, h3, h4, h5, h6, h7, h8]
      · simp [h0, h1, h2, h3, h4, h5, h6, h7]
    · simp [h0, h1, h2, h3, h4, h5, h6]
/-- Are two that touch one? -/
def oneT (a b : S41) : Bool := decide (a.f1 = b.f0) && (decide (a.f2 = b.f2) && (decide (a.f3 = b.f3) && (decide (a.f4 = b.f4) && (if a.f3 = 1 then decide (b.f5 = wrap64 (wrap64 (a.f5 + a.f1) - a.f0)) else true))))
theorem one_eq (a b : S41) : region_one.f a.f0 a.f1 a.f2 a.f3 a.f4 a.f5 b.f0 b.f1 b.f2 b.f3 b.f4 b.f5 = some (oneT a b) := by
  obtain ⟨a0, a1, a2, a3, a4, a5⟩ := a
  obtain ⟨b0, b1, b2, b3, b4, b5⟩ := b
  unfold region_one.f oneT
  simp only []
  by_cases h0 : a1 = b0
  · by_cases h1 : a2 = b2
    · by_cases h2 : a3 = b3
      · by_cases h3 : a4 = b4
        · by_cases h4 : a3 = 1
          · rw [if_pos h0, if_pos h1, if_pos h2, if_pos h3, if_pos h4, if_pos h4, decide_eq_true h0, decide_eq_true h1, decide_eq_true h2, decide_eq_true h3]
            rfl
          · rw [if_pos h0, if_pos h1, if_pos h2, if_pos h3, if_neg h4, if_neg h4, decide_eq_true h0, decide_eq_true h1, decide_eq_true h2, decide_eq_true h3]
            rfl
        · simp [h0, h1, h2, h3]
      · simp [h0, h1, h2]
    · simp [h0, h1]
  · simp [h0]
/-- A part of one. -/
def partT (r : S41) (a b : Int) : S41 := if r.f3 = 1 then ⟨a, b, r.f2, r.f3, r.f4, wrap64 (r.f5 + wrap64 (a - r.f0))⟩ else ⟨a, b, r.f2, r.f3, r.f4, r.f5⟩
theorem part_eq (r : S41) (a b : Int) : region_part.f r.f0 r.f1 r.f2 r.f3 r.f4 r.f5 a b = some ((partT r a b).f0, (partT r a b).f1, (partT r a b).f2, (partT r a b).f3, (partT r a b).f4, (partT r a b).f5) := by
  unfold region_part.f partT
  by_cases h : r.f3 = 1
  · rw [if_pos h, if_pos h]
  · rw [if_neg h, if_neg h]
/-- One more at a row's end. -/
def putT (xs : List S41) (r : S41) : List S41 :=
  if r.f0 ≥ r.f1 then xs
  else if 0 < xs.length ∧ oneT (rd_T41 xs ((xs.length : Int) - 1)) r = true then xs.set (xs.length - 1) { rd_T41 xs ((xs.length : Int) - 1) with f1 := r.f1 }
  else xs ++ [r]
theorem putT_length (xs : List S41) (r : S41) : (putT xs r).length ≤ xs.length + 1 := by
  unfold putT
  split
  · omega
  · split <;> simp
/-- region.Add's loop. -/
def addL (r : S41) : List S41 → Bool → List S41 → Option (List S41)
  | [], added, out => some (if added then out else putT out r)
  | x :: xs, added, out =>
    if x.f0 < r.f1 ∧ r.f0 < x.f1 then none
    else if added = false ∧ x.f0 ≥ r.f1 then addL r xs true (putT (putT out r) x)
    else addL r xs added (putT out x)
def addR : Option (List S41) → List S41 × Int
  | some out => (out, 0)
  | none => ([], 13)
def region_Add.f (l0 : List S41) (a1_0 a1_1 a1_2 a1_3 a1_4 a1_5 : Int) : Option (List S41 × Int) :=
  if l0.length < 1000000 then
    if mayT ⟨a1_0, a1_1, a1_2, a1_3, a1_4, a1_5⟩ = true then
      some (addR (addL ⟨a1_0, a1_1, a1_2, a1_3, a1_4, a1_5⟩ l0 false []))
    else some ([], 1)
  else none
/-- region.Cut: one region's parts. -/
def cutT (a b : Int) (out : List S41) (r : S41) : List S41 :=
  if a ≥ b ∨ r.f1 ≤ a ∨ r.f0 ≥ b then putT out r else putT (putT out (partT r r.f0 a)) (partT r b r.f1)
def region_Cut.f (l0 : List S41) (a1 a2 : Int) : Option (List S41) :=
  if l0.length < 1000000 then some (l0.foldl (cutT a1 a2) []) else none
/-- region.Protect: one region's parts. -/
def proT (a b p : Int) (out : List S41) (r : S41) : List S41 :=
  if mx r.f0 a ≥ mn r.f1 b then putT out r
  else putT (putT (putT out (partT r r.f0 (mx r.f0 a))) { partT r (mx r.f0 a) (mn r.f1 b) with f2 := p }) (partT r (mn r.f1 b) r.f1)
def covL (b : Int) : List S41 → Int → Int
  | [], at_ => at_
  | r :: xs, at_ => if at_ ≥ b ∨ r.f0 > at_ then at_ else covL b xs (mx at_ r.f1)
def covT (l : List S41) (a b : Int) : Bool := decide (b ≤ covL b l a)
def region_Protect.f (l0 : List S41) (a1 a2 a3 : Int) : Option (List S41 × Int) :=
  if l0.length < 1000000 then
    if a3 < 0 ∨ a3 > 7 ∨ a1 ≥ a2 then some ([], 1)
    else if covT l0 a1 a2 = true then some (l0.foldl (proT a1 a2 a3) [], 0)
    else some ([], 12)
  else none
end Go.Proofs.Ytafmeagfockdfaa.Rg
