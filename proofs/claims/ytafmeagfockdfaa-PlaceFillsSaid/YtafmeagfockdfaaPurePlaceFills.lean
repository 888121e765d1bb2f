/-
  PlaceFills, over numbers and lists: for every row of sizes and every room the statement's function comes to true.
-/
import Derived.Test.YtafmeagfockdfaaOpPlaceFills
import Derived.Test.YtafmeagfockdfaaPlSem
import Derived.Test.YtafmeagfockdfaaPlSame
import Derived.Test.YtafmeagfockdfaaMask
namespace Go.Proofs.Ytafmeagfockdfaa.Pure
open Go.RowKit Go.Proofs.Ytafmeagfockdfaa.Pl Go.Proofs.YtafmeagfockdfaaW.PrintWords Go.Proofs.YtafmeagfockdfaaW.PrintLast

namespace Fills
def mk (x : Int) : S34 := ⟨1 + x % 256, 0⟩
def step (x : Int) : Int := rndT (1 + x % 256)
def posT : Int → List Int → List Int
  | _, [] => []
  | at_, x :: xs => at_ :: posT (at_ + step x) xs
def endT : Int → List Int → Int
  | at_, [] => at_
  | at_, x :: xs => endT (at_ + step x) xs
theorem step_bd (x : Int) : 64 ≤ step x ∧ step x ≤ 256 ∧ step x % 64 = 0 := by
  unfold step rndT mn mx; split <;> split <;> omega
theorem endT_bd (xs : List Int) : ∀ at_ : Int, at_ ≤ endT at_ xs ∧ endT at_ xs ≤ at_ + 256 * xs.length ∧ (at_ % 64 = 0 → endT at_ xs % 64 = 0) := by
  induction xs with
  | nil => intro at_; simp [endT]
  | cons x xs ih =>
    intro at_
    have h := step_bd x
    have := ih (at_ + step x)
    simp only [endT, List.length_cons]
    omega
theorem endT_append (xs ys : List Int) : ∀ at_, endT at_ (xs ++ ys) = endT (endT at_ xs) ys := by
  induction xs with
  | nil => intro at_; rfl
  | cons x xs ih => intro at_; simp only [List.cons_append, endT]; exact ih _
theorem posT_append (xs ys : List Int) : ∀ at_, posT at_ (xs ++ ys) = posT at_ xs ++ posT (endT at_ xs) ys := by
  induction xs with
  | nil => intro at_; rfl
  | cons x xs ih => intro at_; simp only [List.cons_append, posT, endT]; rw [ih]
theorem posT_bd (xs : List Int) : ∀ at_ : Int, 0 ≤ at_ → ∀ a ∈ posT at_ xs, 0 ≤ a ∧ a ≤ endT at_ xs := by
  induction xs with
  | nil => intro at_ _ a h; cases h
  | cons x xs ih =>
    intro at_ h0 a ha
    have hs := step_bd x
    have hb := endT_bd xs (at_ + step x)
    simp only [posT, endT] at ha ⊢
    rcases List.mem_cons.1 ha with rfl | ha
    · omega
    · exact ih _ (by omega) a ha
theorem zip_bd (xs ys : List Int) : ∀ at_ : Int, ∀ z, z ∈ ((xs ++ ys).map mk).zip (posT at_ xs) → z.2 + rndT z.1.f0 ≤ endT at_ xs ∧ 0 < rndT z.1.f0 := by
  induction xs with
  | nil => intro at_ z h; simp [posT] at h
  | cons x xs ih =>
    intro at_ z h
    have hs := step_bd x
    have hb := endT_bd xs (at_ + step x)
    simp only [List.cons_append, List.map_cons, posT, List.zip_cons_cons] at h
    simp only [endT]
    rcases List.mem_cons.1 h with rfl | h
    · show at_ + step x ≤ _ ∧ 0 < step x; omega
    · exact ih _ z h
theorem places_are (xs ys : List Int) : ∀ at_ : Int, 0 ≤ at_ → endT at_ xs ≤ 1000000 → ∀ p, (p = at_ ∨ p ∈ (((xs ++ ys).map mk).zip (posT at_ xs)).map fun z => wrap64 (z.2 + rndT z.1.f0)) →
    p = endT at_ xs ∨ ∃ z ∈ ((xs ++ ys).map mk).zip (posT at_ xs), z.2 = p := by
  induction xs with
  | nil =>
    intro at_ _ _ p h
    rcases h with h | h
    · exact .inl h
    · simp [posT] at h
  | cons x xs ih =>
    intro at_ h0 hm p h
    have hs := step_bd x
    have hb := endT_bd xs (at_ + step x)
    simp only [List.cons_append, List.map_cons, posT, List.zip_cons_cons] at h ⊢
    simp only [endT] at hm ⊢
    have hw : wrap64 (at_ + rndT (mk x).f0) = at_ + step x := by
      show wrap64 (at_ + step x) = _
      unfold wrap64; omega
    rcases h with h | h
    · exact .inr ⟨(mk x, at_), by simp, h.symm⟩
    · have h' : p = at_ + step x ∨ p ∈ (((xs ++ ys).map mk).zip (posT (at_ + step x) xs)).map fun z => wrap64 (z.2 + rndT z.1.f0) := by
        rcases List.mem_cons.1 h with h | h
        · exact .inl (h.trans hw)
        · exact .inr h
      rcases ih (at_ + step x) (by omega) hm p h' with h | ⟨z, hz, he⟩
      · exact .inl h
      · exact .inr ⟨z, List.mem_cons_of_mem _ hz, he⟩
theorem end_is_place (xs ys : List Int) : ∀ at_ : Int, 0 ≤ at_ → endT at_ xs ≤ 1000000 → (endT at_ xs = at_ ∨ endT at_ xs ∈ (((xs ++ ys).map mk).zip (posT at_ xs)).map fun z => wrap64 (z.2 + rndT z.1.f0)) := by
  induction xs with
  | nil => intro at_ _ _; exact .inl rfl
  | cons x xs ih =>
    intro at_ h0 hm
    have hs := step_bd x
    have hb := endT_bd xs (at_ + step x)
    simp only [endT] at hm ⊢
    simp only [List.cons_append, List.map_cons, posT, List.zip_cons_cons]
    have hw : wrap64 (at_ + rndT (mk x).f0) = at_ + step x := by
      show wrap64 (at_ + step x) = _
      unfold wrap64; omega
    rcases ih (at_ + step x) (by omega) hm with h | h
    · exact .inr (by rw [h, hw]; simp)
    · exact .inr (List.mem_cons_of_mem _ h)
theorem put_fills (xs ys : List Int) (x : Int) (high : Int) (hx : endT 640 xs ≤ 1000000) (hh : high ≤ 1000000) (hroom : roomT 640 high = true) :
    putT ((xs ++ (x :: ys)).map mk) 640 high (posT 640 xs) (mk x) = if endT 640 xs + step x ≤ high then some (endT 640 xs) else none := by
  have hs := step_bd x
  have hb := endT_bd xs 640
  have hl : ∀ z ∈ (xs ++ (x :: ys)).map mk, 1 ≤ z.f0 := by
    intro z hz
    obtain ⟨y, _, rfl⟩ := List.mem_map.1 hz
    show 1 ≤ 1 + y % 256
    omega
  have hat : ∀ a ∈ posT 640 xs, 0 ≤ a ∧ a ≤ 10000000000000 := fun a ha => by have := posT_bd xs 640 (by omega) a ha; omega
  have fits := fun p => fits_iff (low := 640) (high := high) (p := p) (n := step x) hat hl (by omega) (by omega) (by omega) (by omega)
  obtain ⟨f1, f2⟩ := free_spec ((xs ++ (x :: ys)).map mk) (posT 640 xs) 640 high (1 + x % 256) hroom (by omega)
  have hclear : Clear ((xs ++ (x :: ys)).map mk) (posT 640 xs) (endT 640 xs) (step x) := by
    intro z hz hm
    have := zip_bd xs (x :: ys) 640 z hz
    omega
  have hpl : endT 640 xs ∈ placesT ((xs ++ (x :: ys)).map mk) (posT 640 xs) 640 := by
    rcases end_is_place xs (x :: ys) 640 (by omega) hx with h | h
    · rw [h]; exact List.mem_cons_self
    · exact List.mem_cons_of_mem _ h
  have hmod : Int.tmod (endT 640 xs) 64 = 0 := by rw [tmod_nonneg (by omega)]; exact hb.2.2 (by omega)
  have only : ∀ p ∈ placesT ((xs ++ (x :: ys)).map mk) (posT 640 xs) 640, fitsT ((xs ++ (x :: ys)).map mk) (posT 640 xs) 640 high p (step x) = true → p = endT 640 xs := by
    intro p hp hf
    have hc := ((fits p).1 hf).2.2
    rcases places_are xs (x :: ys) 640 (by omega) hx p (List.mem_cons.1 hp) with h | ⟨z, hz, he⟩
    · exact h
    · have := zip_bd xs (x :: ys) 640 z hz
      exact absurd ⟨by omega, by omega⟩ (hc z hz)
  unfold putT
  rw [if_neg (by simp [mk])]
  show (if (freeT _ _ _ _ (1 + x % 256)).2 = true then _ else _) = _
  by_cases hle : endT 640 xs + step x ≤ high
  · have hfit : fitsT ((xs ++ (x :: ys)).map mk) (posT 640 xs) 640 high (endT 640 xs) (step x) = true := (fits _).2 ⟨hb.1, hle, hclear⟩
    have ht := f1.2 ⟨_, hpl, hmod, hfit⟩
    obtain ⟨m1, _, m3, _⟩ := f2 ht
    rw [if_pos ht, if_pos hle]
    exact congrArg some (only _ m1 m3)
  · rw [if_neg hle, if_neg]
    intro ht
    obtain ⟨m1, _, m3, _⟩ := f2 ht
    have e := only _ m1 m3
    rw [e] at m3
    exact hle ((fits _).1 m3).2.1
theorem go_fills (ys : List Int) (high : Int) (hh : high ≤ 1000000) (hroom : roomT 640 high = true) : ∀ (xs : List Int), endT 640 (xs ++ ys) ≤ 1000000 → endT 640 xs ≤ high →
    goT ((xs ++ ys).map mk) 640 high (ys.map mk) (posT 640 xs) = if endT 640 (xs ++ ys) ≤ high then some (posT 640 (xs ++ ys)) else none := by
  induction ys with
  | nil => intro xs _ h; simp only [List.append_nil, List.map_nil, goT]; rw [if_pos h]
  | cons y ys ih =>
    intro xs hx h
    have e1 : xs ++ (y :: ys) = (xs ++ [y]) ++ ys := by simp
    have e2 : endT 640 (xs ++ [y]) = endT 640 xs + step y := by rw [endT_append]; rfl
    have hbig := endT_bd ys (endT 640 (xs ++ [y]))
    have e3 : endT 640 (xs ++ (y :: ys)) = endT (endT 640 (xs ++ [y])) ys := by rw [e1, endT_append]
    have hs := step_bd y
    simp only [List.map_cons, goT]
    rw [put_fills xs ys y high (by omega) hh hroom]
    by_cases c : endT 640 xs + step y ≤ high
    · rw [if_pos c, Option.bind_some]
      have e4 : posT 640 xs ++ [endT 640 xs] = posT 640 (xs ++ [y]) := by rw [posT_append]; rfl
      rw [e4, e1]
      exact ih (xs ++ [y]) (by rw [← e1]; exact hx) (by omega)
    · rw [if_neg c, if_neg (by omega)]
      rfl
end Fills
open Fills
theorem fills_j1 (xs : List Int) (a1 : Int) (hx : xs.length ≤ 12) : Ev (fun k => flyleaflaw13_PlaceFills.j1 k a1 true (xs.map mk) (posT 640 xs) (endT 640 xs)) true := by
  refine Ev.succ ?_
  simp only [flyleaflaw13_PlaceFills.j1]
  have hhigh : wrap64 (640 + wrap64 (64 * Go.bits .and .i64 a1 63)) = 640 + 64 * (a1 % 64) := by rw [i64_and63]; unfold wrap64; omega
  rw [hhigh]
  have hb := endT_bd xs 640
  generalize hhd : 640 + 64 * (a1 % 64) = high
  have hroom : roomT 640 high = true := decide_eq_true (by omega)
  have hall : (xs.map mk).all okW = true := by
    rw [List.all_eq_true]
    intro z hz
    obtain ⟨y, _, rfl⟩ := List.mem_map.1 hz
    exact decide_eq_true (show 1 ≤ 1 + y % 256 ∧ 1 + y % 256 ≤ 1099511627776 ∧ (0 : Int) ≤ 0 ∧ (0 : Int) ≤ 1099511627776 by omega)
  have hgo := go_fills xs high (by omega) hroom [] (by simp only [List.nil_append]; omega) (by simp only [endT]; omega)
  simp only [List.nil_append] at hgo
  have hg' : goT (xs.map mk) 640 high (xs.map mk) [] = if endT 640 xs ≤ high then some (posT 640 xs) else none := hgo
  have hallT : allT (xs.map mk) 640 high = if endT 640 xs ≤ high then (posT 640 xs, 0) else ([], 18) := by
    unfold allT
    rw [if_pos hroom, if_pos hall, hg']
    split <;> rfl
  refine Ev.bind (Ev.eq (all_ev _ 640 high (by simp; omega)) hallT) ?_
  have hlen : (posT 640 xs).length = xs.length := by
    have : ∀ at_, (posT at_ xs).length = xs.length := by
      clear hb hall hgo hg' hallT hx
      induction xs with
      | nil => intro _; rfl
      | cons x xs ih => intro at_; simp [posT, ih]
    exact this 640
  by_cases c : endT 640 xs ≤ high
  · rw [if_pos c]
    refine Ev.neg (by omega) (Ev.bind (same_ev _ _ (by show (posT 640 xs).length ≤ _; omega)) ?_)
    simp only [decide_true, if_true]
    have hr : rndT (wrap64 (endT 640 xs - 640)) = endT 640 xs - 640 ∧ wrap64 (endT 640 xs - 640) = endT 640 xs - 640 := by
      have := hb.2.2 (by omega)
      have hw : wrap64 (endT 640 xs - 640) = endT 640 xs - 640 := by unfold wrap64; omega
      rw [hw]
      refine ⟨?_, rfl⟩
      unfold rndT mn mx; split <;> split <;> omega
    refine Ev.bind (round_ev _) ?_
    rw [hr.1, hr.2]
    exact Ev.some (by simp)
  · rw [if_neg c]
    refine Ev.pos (by omega) ?_
    simp only [if_true]
    exact Ev.some (by simp)
theorem fills_loop (l0 : List Int) (a1 : Int) (d : Nat) : ∀ i : Nat, min 12 l0.length = i + d →
    Ev (fun k => flyleaflaw13_PlaceFills.l0 k l0 a1 true ((l0.take i).map mk) (posT 640 (l0.take i)) (endT 640 (l0.take i)) (i : Int)) true := by
  have hpl : ∀ (xs : List Int) (at_ : Int), (posT at_ xs).length = xs.length := by
    intro xs
    induction xs with
    | nil => intro _; rfl
    | cons x xs ih => intro at_; simp [posT, ih]
  induction d with
  | zero =>
    intro i h
    have hj := fills_j1 (l0.take i) a1 (by simp; omega)
    refine Ev.succ ?_
    simp only [flyleaflaw13_PlaceFills.l0]
    by_cases c : (i : Int) < (l0.length : Int)
    · exact Ev.pos c (Ev.neg (by omega) hj)
    · exact Ev.neg c hj
  | succ d ih =>
    intro i h
    have h1 : i < l0.length := by omega
    refine Ev.succ ?_
    simp only [flyleaflaw13_PlaceFills.l0]
    refine Ev.pos (by omega) (Ev.pos (by omega) (Ev.pos (by omega) (Ev.pos (by simp; omega) (Ev.pos (by rw [hpl]; simp; omega) ?_))))
    have hsz : wrap64 (1 + Go.bits .and .i64 (rd l0 (i : Int)) 255) = 1 + l0[i] % 256 := by rw [i64_and255, rd_eq h1]; unfold wrap64; omega
    rw [hsz]
    have hb := endT_bd (l0.take i) 640
    have hli : (l0.take i).length = i := by simp; omega
    have hat : wrap64 (endT 640 (l0.take i) + wrap64 (wrap64 (Int.tdiv (wrap64 (1 + l0[i] % 256 + 63)) 64) * 64)) = endT 640 (l0.take i) + Fills.step l0[i] := by
      have h2 : wrap64 (1 + l0[i] % 256 + 63) = 1 + l0[i] % 256 + 63 := by unfold wrap64; omega
      have h3 : Int.tdiv (1 + l0[i] % 256 + 63) 64 = (1 + l0[i] % 256 + 63) / 64 := Int.tdiv_eq_ediv_of_nonneg (by omega)
      rw [h2, h3]
      unfold Fills.step rndT mn mx wrap64
      split <;> split <;> omega
    rw [hat, wrap_nat (by omega)]
    have e : l0.take (i + 1) = l0.take i ++ [l0[i]] := List.take_succ_eq_append_getElem h1
    have := ih (i + 1) (by omega)
    rw [e, List.map_append, posT_append, endT_append] at this
    exact this
/-- THE PURE STATEMENT. -/
theorem PlaceFills : Pl.PlaceFills.Said := by
  intro l0 a1 _ _
  refine Ev.rounds ?_
  unfold flyleaflaw13_PlaceFills.f
  refine Ev.bind awake_ev ?_
  exact fills_loop l0 a1 (min 12 l0.length) 0 (by omega)

end Go.Proofs.Ytafmeagfockdfaa.Pure
