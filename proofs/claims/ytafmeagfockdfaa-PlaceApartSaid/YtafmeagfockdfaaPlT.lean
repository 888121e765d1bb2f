/-
  What the functions of package place under Free come to, as total functions: Round, Meet, room, fits, and Free itself.
-/
import Derived.Test.YtafmeagfockdfaaPl0
import Derived.Test.YtafmeagfockdfaaPl1
import Derived.Test.YtafmeagfockdfaaPl2
namespace Go.Proofs.Ytafmeagfockdfaa.Pl
open Go.RowKit Go.Proofs.YtafmeagfockdfaaW.PrintWords Go.Proofs.YtafmeagfockdfaaW.PrintLast Go.Proofs.YtafmeagfockdfaaW.PrintMore

theorem Ev.pos {α : Type} {c : Prop} [Decidable c] {a b : Nat → Option α} {r : α} (h : c) (k : Ev a r) : Ev (fun n => if c then a n else b n) r :=
  Ev.congr (fun _ => if_pos h) k
theorem Ev.neg {α : Type} {c : Prop} [Decidable c] {a b : Nat → Option α} {r : α} (h : ¬ c) (k : Ev b r) : Ev (fun n => if c then a n else b n) r :=
  Ev.congr (fun _ => if_neg h) k
theorem Ev.succ {α : Type} {g : Nat → Option α} {r : α} (h : Ev (fun k => g (k + 1)) r) : Ev g r := Ev.step (f := fun k => g (k + 1)) (fun _ => rfl) h
theorem Ev.some {α : Type} {x r : α} (h : x = r) : Ev (fun _ => Option.some x) r := by subst h; exact Ev.now _
theorem Ev.eq {α : Type} {g : Nat → Option α} {x r : α} (k : Ev g x) (h : x = r) : Ev g r := by subst h; exact k
theorem Ev.pure {α β : Type} {g : Option α} {f : Nat → α → Option β} {a : α} {r : β} (h : g = Option.some a) (k : Ev (fun n => f n a) r) : Ev (fun n => g.bind (f n)) r := by
  subst h; exact k

def rndT (a : Int) : Int := (mn (mx a 0) 1099511627776 + 63) / 64 * 64
theorem mnmx (a : Int) : 0 ≤ mn (mx a 0) 1099511627776 ∧ mn (mx a 0) 1099511627776 ≤ 1099511627776 := by
  unfold mn mx; split <;> split <;> omega
theorem rndT_pos (a : Int) : 0 ≤ rndT a ∧ rndT a ≤ 1099511627776 ∧ rndT a % 64 = 0 := by
  have := mnmx a; unfold rndT; omega
theorem tmod_nonneg {x : Int} (h : 0 ≤ x) : Int.tmod x 64 = x % 64 := Int.tmod_eq_emod_of_nonneg h
theorem round_ev (a : Int) : Ev (fun k => place_Round.f k a) (rndT a) := by
  have hb := mnmx a
  have e : rndT a = (mn (mx a 0) 1099511627776 + 63) / 64 * 64 := rfl
  unfold place_Round.f
  generalize mn (mx a 0) 1099511627776 = x at hb e
  have ht := tmod_nonneg hb.1
  have key : Ev (fun k => octet_Round.f k x 64) (rndT a, true) := by
    unfold octet_Round.f
    refine Ev.neg (by omega) (Ev.neg (by omega) (Ev.step (fun k => rfl) ?_))
    refine Ev.neg (by simp; omega) (Ev.neg (by omega) ?_)
    rw [ht]
    by_cases c : x % 64 = 0
    · refine Ev.pos c (Ev.some ?_)
      simp only [Prod.mk.injEq, and_true]; omega
    · refine Ev.neg c (Ev.neg (by unfold wrap64; omega) (Ev.some ?_))
      simp only [Prod.mk.injEq, and_true]
      unfold wrap64; omega
  exact Ev.bind key (Ev.now _)
def meetT (a na b nb : Int) : Bool :=
  if na ≤ 0 ∨ nb ≤ 0 then false
  else if a ≤ b then decide (IntKind.u64.wrap (IntKind.u64.wrap b - IntKind.u64.wrap a) < IntKind.u64.wrap na)
  else decide (IntKind.u64.wrap (IntKind.u64.wrap a - IntKind.u64.wrap b) < IntKind.u64.wrap nb)
theorem meet_ev (a na b nb : Int) : Ev (fun k => place_Meet.f k a na b nb) (meetT a na b nb) := by
  unfold place_Meet.f meetT
  by_cases h1 : na ≤ 0
  · refine Ev.pos h1 (Ev.succ ?_)
    simp only [place_Meet.j0, if_true]
    exact Ev.some (by simp [h1])
  · refine Ev.neg h1 (Ev.step (fun k => rfl) ?_)
    by_cases h2 : nb ≤ 0
    · exact Ev.pos (by simp [h2]) (Ev.some (by simp [h2]))
    · refine Ev.neg (by simp [h2]) ?_
      by_cases h3 : a ≤ b
      · exact Ev.pos h3 (Ev.some (by simp [h1, h2, h3]))
      · exact Ev.neg h3 (Ev.some (by simp [h1, h2, h3]))
def roomT (low high : Int) : Bool := decide (0 ≤ low ∧ high ≤ 1099511627776 ∧ low ≤ high ∧ low % 64 = 0 ∧ high % 64 = 0)
theorem room_eq (low high : Int) : place_room.f low high = some (roomT low high) := by
  unfold place_room.f roomT
  by_cases h1 : low ≥ 0
  · rw [if_pos h1]
    by_cases h2 : high ≤ 1099511627776
    · rw [if_pos h2]
      by_cases h3 : low ≤ high
      · rw [if_pos h3, tmod_nonneg (by omega), tmod_nonneg (by omega)]
        by_cases h4 : low % 64 = 0
        · rw [if_pos h4]
          congr 1
          by_cases h5 : high % 64 = 0
          · rw [decide_eq_true (by omega)]; simp [h5]
          · rw [decide_eq_false (by omega)]; simp [h5]
        · rw [if_neg h4, decide_eq_false (by omega)]
      · rw [if_neg h3, decide_eq_false (by omega)]
    · rw [if_neg h2, decide_eq_false (by omega)]
  · rw [if_neg h1, decide_eq_false (by omega)]
def anyT (l : List S34) (at_ : List Int) (p n : Int) : Bool := (l.zip at_).any fun x => meetT x.2 (rndT x.1.f0) p n
def fitsT (l : List S34) (at_ : List Int) (low high p n : Int) : Bool :=
  if p < low ∨ p > high ∨ wrap64 (high - p) < n then false else !anyT l at_ p n
theorem rd_eq {l : List Int} {i : Nat} (h : i < l.length) : rd l (i : Int) = l[i] := by
  simp [rd, h]
theorem rdT34_eq {l : List S34} {i : Nat} (h : i < l.length) : rd_T34 l (i : Int) = l[i] := by
  simp [rd_T34, h]
theorem fits_loop (l : List S34) (at_ : List Int) (p n : Int) (hl : l.length ≤ 9223372036854775807) (d : Nat) : ∀ i : Nat, min at_.length l.length = i + d →
    Ev (fun k => place_fits.l0 k l at_ p n (mn (at_.length : Int) (l.length : Int)) (i : Int)) (!(((l.zip at_).drop i).any fun x => meetT x.2 (rndT x.1.f0) p n)) := by
  have hm : mn (at_.length : Int) (l.length : Int) = ((min at_.length l.length : Nat) : Int) := by unfold mn; split <;> omega
  rw [hm]
  induction d with
  | zero =>
    intro i h
    refine Ev.step (fun k => rfl) (Ev.neg (by omega) (Ev.some ?_))
    rw [List.drop_eq_nil_of_le (by simp; omega)]; rfl
  | succ d ih =>
    intro i h
    have h1 : i < at_.length := by omega
    have h2 : i < l.length := by omega
    refine Ev.step (fun k => rfl) (Ev.pos (by omega) (Ev.pos (by omega) (Ev.pos (by omega) (Ev.pos (by omega) ?_))))
    refine Ev.bind (round_ev _) (Ev.bind (meet_ev _ _ _ _) ?_)
    rw [List.drop_eq_getElem_cons (by simp; omega), List.any_cons]
    simp only [List.getElem_zip]
    rw [rd_eq h1, rdT34_eq h2]
    cases hc : meetT at_[i] (rndT l[i].f0) p n
    · refine Ev.neg (by simp) ?_
      have hw : wrap64 ((i : Int) + 1) = ((i + 1 : Nat) : Int) := by unfold wrap64; omega
      rw [hw]
      exact Ev.eq (ih (i + 1) (by omega)) (by simp)
    · simp only [if_true]
      exact Ev.some (by simp)
theorem fits_ev (l : List S34) (at_ : List Int) (low high p n : Int) (hl : l.length ≤ 9223372036854775807) : Ev (fun k => place_fits.f k l at_ low high p n) (fitsT l at_ low high p n) := by
  unfold place_fits.f fitsT
  by_cases h1 : p < low
  · refine Ev.pos h1 (Ev.succ ?_)
    simp only [place_fits.j0, if_true]
    exact Ev.some (by simp [h1])
  · refine Ev.neg h1 ?_
    by_cases h2 : p > high
    · refine Ev.pos h2 (Ev.succ ?_)
      simp only [place_fits.j0, if_true]
      exact Ev.some (by simp [h2])
    · refine Ev.neg h2 (Ev.step (fun k => rfl) ?_)
      by_cases h3 : wrap64 (high - p) < n
      · exact Ev.pos (by simp [h3]) (Ev.some (by simp [h3]))
      · refine Ev.neg (by simp [h3]) ?_
        have := fits_loop l at_ p n hl (min at_.length l.length) 0 (by omega)
        exact Ev.eq this (by simp [h1, h2, h3, anyT])
/-! Free -/
def placesT (l : List S34) (at_ : List Int) (low : Int) : List Int := low :: (l.zip at_).map fun x => wrap64 (x.2 + rndT x.1.f0)
def oneT (l : List S34) (at_ : List Int) (low high n : Int) (st : Int × Bool) (p : Int) : Int × Bool :=
  if Int.tmod p 64 = 0 ∧ (st.2 = false ∨ p < st.1) ∧ fitsT l at_ low high p n = true then (p, true) else st
def freeT (l : List S34) (at_ : List Int) (low high size : Int) : Int × Bool :=
  if roomT low high = true ∧ 1 ≤ size then (placesT l at_ low).foldl (oneT l at_ low high (rndT size)) (0, false) else (0, false)
def place_Free.f (l0 : List S34) (l1 : List Int) (a2 : Int) (a3 : Int) (a4 : Int) : Option (Int × Bool) := some (freeT l0 l1 a2 a3 a4)
end Go.Proofs.Ytafmeagfockdfaa.Pl
