/-
  PlaceAll, over numbers and lists: the program and the document place the same things at the same places, for any things and any room.
-/
import Derived.Test.YtafmeagfockdfaaOpPlaceAll
import Derived.Test.YtafmeagfockdfaaPlSame
namespace Go.Proofs.Ytafmeagfockdfaa.Pure
open Go.RowKit Go.Proofs.Ytafmeagfockdfaa.Pl Go.Proofs.YtafmeagfockdfaaW.PrintWords Go.Proofs.YtafmeagfockdfaaW.PrintMore

theorem rndT_mid {a : Int} (h0 : 0 ≤ a) (h1 : a ≤ 1099511627776) : rndT a = (a + 63) / 64 * 64 := by
  have e1 : mx a 0 = a := if_neg (by omega)
  have e2 : mn a 1099511627776 = a := if_neg (by omega)
  unfold rndT; rw [e1, e2]
theorem rndT_low {a : Int} (h0 : a < 0) : rndT a = 0 := by
  have e1 : mx a 0 = 0 := if_pos h0
  unfold rndT; rw [e1]; decide
theorem rndT_high {a : Int} (h0 : 1099511627776 < a) : rndT a = 1099511627776 := by
  have e1 : mx a 0 = a := if_neg (by omega)
  have e2 : mn a 1099511627776 = 1099511627776 := if_pos h0
  unfold rndT; rw [e1, e2]; decide
theorem ref_round (a : Int) : flyleafref13_Round.f a = some (rndT a) := by
  unfold flyleafref13_Round.f
  by_cases h1 : a < 0
  · rw [if_pos h1, rndT_low h1]
  · rw [if_neg h1]
    by_cases h2 : a > 1099511627776
    · rw [if_pos h2, rndT_high h2]
    · rw [if_neg h2, rndT_mid (by omega) (by omega)]
      have e1 : wrap64 (a + 63) = a + 63 := by unfold wrap64; omega
      have e2 : Int.tdiv (a + 63) 64 = (a + 63) / 64 := Int.tdiv_eq_ediv_of_nonneg (by omega)
      rw [e1, e2]
      congr 1
      unfold wrap64; omega
theorem ref_room (low high : Int) : flyleafref13_room.f low high = some (roomT low high) := room_eq low high
theorem ref_meet (a na b nb : Int) : Ev (fun k => flyleafref13_Meet.f k a na b nb) (meetT a na b nb) := by
  unfold flyleafref13_Meet.f meetT
  by_cases h1 : na ≤ 0
  · refine Ev.pos h1 (Ev.succ ?_)
    simp only [flyleafref13_Meet.j0, if_true]
    exact Ev.some (by simp [h1])
  · refine Ev.neg h1 (Ev.step (fun k => rfl) ?_)
    by_cases h2 : nb ≤ 0
    · exact Ev.pos (by simp [h2]) (Ev.some (by simp [h2]))
    · refine Ev.neg (by simp [h2]) ?_
      by_cases h3 : a ≤ b
      · exact Ev.pos h3 (Ev.some (by simp [h1, h2, h3]))
      · exact Ev.neg h3 (Ev.some (by simp [h1, h2, h3]))
theorem ref_fits_loop (l : List S34) (at_ : List Int) (p n : Int) (hl : l.length ≤ 1000000000000000) (d : Nat) : ∀ i : Nat, min at_.length l.length = i + d →
    Ev (fun k => flyleafref13_fits.l0 k l at_ p n (i : Int)) (!(((l.zip at_).drop i).any fun x => meetT x.2 (rndT x.1.f0) p n)) := by
  induction d with
  | zero =>
    intro i h
    have e : (l.zip at_).drop i = [] := List.drop_eq_nil_of_le (by simp; omega)
    rw [e]
    refine Ev.succ ?_
    simp only [flyleafref13_fits.l0]
    by_cases c : (i : Int) < (at_.length : Int)
    · refine Ev.pos c (Ev.succ ?_)
      simp only [flyleafref13_fits.j2]
      exact Ev.neg (by simp; omega) (Ev.some rfl)
    · refine Ev.neg c (Ev.succ ?_)
      simp only [flyleafref13_fits.j2]
      exact Ev.neg (by simp) (Ev.some rfl)
  | succ d ih =>
    intro i h
    have h1 : i < at_.length := by omega
    have h2 : i < l.length := by omega
    refine Ev.succ ?_
    simp only [flyleafref13_fits.l0]
    refine Ev.pos (by omega) (Ev.succ ?_)
    simp only [flyleafref13_fits.j2]
    refine Ev.pos (by simp; omega) (Ev.pos (by omega) (Ev.pos (by omega) (Ev.pos (by omega) ?_)))
    refine Ev.pure (ref_round _) (Ev.bind (ref_meet _ _ _ _) ?_)
    rw [List.drop_eq_getElem_cons (by simp; omega), List.any_cons]
    simp only [List.getElem_zip]
    rw [rd_eq h1, rdT34_eq h2]
    cases hc : meetT at_[i] (rndT l[i].f0) p n
    · refine Ev.neg (by simp) ?_
      rw [wrap_nat (by omega)]
      exact Ev.eq (ih (i + 1) (by omega)) (by simp)
    · simp only [if_true]
      exact Ev.some (by simp)
theorem ref_fits (l : List S34) (at_ : List Int) (low high p n : Int) (hl : l.length ≤ 1000000000000000) : Ev (fun k => flyleafref13_fits.f k l at_ low high p n) (fitsT l at_ low high p n) := by
  unfold flyleafref13_fits.f fitsT
  by_cases h1 : p < low
  · refine Ev.pos h1 (Ev.succ ?_)
    simp only [flyleafref13_fits.j0, if_true]
    exact Ev.some (by simp [h1])
  · refine Ev.neg h1 ?_
    by_cases h2 : p > high
    · refine Ev.pos h2 (Ev.succ ?_)
      simp only [flyleafref13_fits.j0, if_true]
      exact Ev.some (by simp [h2])
    · refine Ev.neg h2 (Ev.step (fun k => rfl) ?_)
      by_cases h3 : wrap64 (high - p) < n
      · exact Ev.pos (by simp [h3]) (Ev.some (by simp [h3]))
      · refine Ev.neg (by simp [h3]) ?_
        have := ref_fits_loop l at_ p n hl (min at_.length l.length) 0 (by omega)
        exact Ev.eq this (by simp [h1, h2, h3, anyT])
/-- One round of the document's Free, whatever the place. -/
theorem ref_one (l : List S34) (at_ : List Int) (low high n : Int) (st : Int × Bool) (p : Int) (nxt : Nat → Bool → Int → Option (Int × Bool)) (r : Int × Bool)
    (h : Ev (fun k => nxt k (oneT l at_ low high n st p).2 (oneT l at_ low high n st p).1) r) (b : Bool) (hb : b = fitsT l at_ low high p n) :
    Ev (fun k => if Int.tmod p 64 = 0 then (if b = true then (if st.2 = true then (if p < st.1 then nxt k true p else nxt k st.2 st.1) else nxt k true p) else nxt k st.2 st.1) else nxt k st.2 st.1) r := by
  subst hb
  by_cases c1 : Int.tmod p 64 = 0
  · refine Ev.pos c1 ?_
    by_cases c2 : fitsT l at_ low high p n = true
    · refine Ev.pos c2 ?_
      by_cases c3 : st.2 = true
      · refine Ev.pos c3 ?_
        by_cases c4 : p < st.1
        · refine Ev.pos c4 ?_
          have e : oneT l at_ low high n st p = (p, true) := by unfold oneT; rw [if_pos ⟨c1, .inr c4, c2⟩]
          rw [e] at h; exact h
        · refine Ev.neg c4 ?_
          have e : oneT l at_ low high n st p = st := by unfold oneT; rw [if_neg]; rintro ⟨_, h1 | h1, _⟩; · rw [c3] at h1; cases h1
                                                         · exact c4 h1
          rw [e] at h; exact h
      · refine Ev.neg c3 ?_
        have e : oneT l at_ low high n st p = (p, true) := by unfold oneT; rw [if_pos ⟨c1, .inl (by simpa using c3), c2⟩]
        rw [e] at h; exact h
    · refine Ev.neg c2 ?_
      have e : oneT l at_ low high n st p = st := by unfold oneT; rw [if_neg]; exact fun h1 => c2 h1.2.2
      rw [e] at h; exact h
  · refine Ev.neg c1 ?_
    have e : oneT l at_ low high n st p = st := by unfold oneT; rw [if_neg]; exact fun h1 => c1 h1.1
    rw [e] at h; exact h
theorem ref_free_loop (l : List S34) (at_ : List Int) (low high n : Int) (hl : l.length ≤ 1000000000000000) (d : Nat) : ∀ (i : Nat) (st : Int × Bool), min at_.length l.length = i + d →
    Ev (fun k => flyleafref13_Free.l0 k l at_ low high n st.2 st.1 (i : Int)) ((((l.zip at_).drop i).map fun x => wrap64 (x.2 + rndT x.1.f0)).foldl (oneT l at_ low high n) st) := by
  induction d with
  | zero =>
    intro i st h
    have e : (l.zip at_).drop i = [] := List.drop_eq_nil_of_le (by simp; omega)
    rw [e]
    refine Ev.succ ?_
    simp only [flyleafref13_Free.l0]
    by_cases c : (i : Int) < (at_.length : Int)
    · refine Ev.pos c (Ev.succ ?_)
      simp only [flyleafref13_Free.j2]
      exact Ev.neg (by simp; omega) (Ev.some rfl)
    · refine Ev.neg c (Ev.succ ?_)
      simp only [flyleafref13_Free.j2]
      exact Ev.neg (by simp) (Ev.some rfl)
  | succ d ih =>
    intro i st h
    have h1 : i < at_.length := by omega
    have h2 : i < l.length := by omega
    have e : (l.zip at_).drop i = (l[i], at_[i]) :: (l.zip at_).drop (i + 1) := by
      rw [List.drop_eq_getElem_cons (by simp; omega)]; simp
    rw [e]
    simp only [List.map_cons, List.foldl_cons]
    refine Ev.succ ?_
    simp only [flyleafref13_Free.l0]
    refine Ev.pos (by omega) (Ev.succ ?_)
    simp only [flyleafref13_Free.j2]
    refine Ev.pos (by simp; omega) (Ev.pos (by omega) (Ev.pos (by omega) (Ev.pos (by omega) (Ev.pos (by omega) ?_))))
    rw [rd_eq h1, rdT34_eq h2]
    refine Ev.pure (ref_round _) (Ev.bind (ref_fits _ _ _ _ _ _ hl) ?_)
    rw [wrap_nat (by omega)]
    exact ref_one l at_ low high n st _ (fun k f b => flyleafref13_Free.l0 k l at_ low high n f b ((i + 1 : Nat) : Int)) _ (ih (i + 1) _ (by omega)) _ rfl
theorem ref_free (l : List S34) (at_ : List Int) (low high size : Int) (hl : l.length ≤ 1000000000000000) (hne : l ≠ []) : Ev (fun k => flyleafref13_Free.f k l at_ low high size) (freeT l at_ low high size) := by
  have hl0 : 0 < l.length := List.length_pos_iff.2 hne
  unfold flyleafref13_Free.f freeT
  refine Ev.pure (ref_room low high) ?_
  by_cases c : roomT low high = true
  · refine Ev.pos c ?_
    by_cases c2 : 1 ≤ size
    · rw [if_pos ⟨c, c2⟩]
      refine Ev.succ ?_
      simp only [flyleafref13_Free.j0]
      refine Ev.neg (by simp; omega) (Ev.pure (ref_round size) (Ev.succ ?_))
      simp only [flyleafref13_Free.l0]
      refine Ev.pos (by omega) (Ev.succ ?_)
      simp only [flyleafref13_Free.j2]
      refine Ev.pos (by simp; omega) (Ev.neg (by omega) (Ev.bind (ref_fits _ _ _ _ _ _ hl) ?_))
      have e : placesT l at_ low = low :: ((l.zip at_).drop 0).map fun x => wrap64 (x.2 + rndT x.1.f0) := rfl
      have hw : wrap64 (-1 + 1) = ((0 : Nat) : Int) := by unfold wrap64; omega
      rw [e, List.foldl_cons, hw]
      exact ref_one l at_ low high (rndT size) (0, false) low (fun k f b => flyleafref13_Free.l0 k l at_ low high (rndT size) f b ((0 : Nat) : Int)) _
        (ref_free_loop l at_ low high (rndT size) hl (min at_.length l.length) 0 (oneT l at_ low high (rndT size) (0, false) low) (by omega)) _ rfl
    · rw [if_neg (fun h => c2 h.2)]
      refine Ev.succ ?_
      simp only [flyleafref13_Free.j0]
      exact Ev.pos (by simp; omega) (Ev.some rfl)
  · rw [if_neg (fun h => c h.1)]
    refine Ev.neg c (Ev.succ ?_)
    simp only [flyleafref13_Free.j0, if_true]
    exact Ev.some rfl
theorem ref_l1 (l : List S34) (low high : Int) (hl : l.length ≤ 8796093022208) (d : Nat) : ∀ (i : Nat) (at_ : List Int), at_.length = i → l.length = i + d →
    Ev (fun k => flyleafref13_All.l1 k l low high at_ (i : Int)) (l1T l low high (l.drop i) at_) := by
  induction d with
  | zero =>
    intro i at_ ha h
    refine Ev.succ ?_
    simp only [flyleafref13_All.l1]
    refine Ev.neg (by omega) (Ev.some ?_)
    rw [List.drop_eq_nil_of_le (by omega)]
    rfl
  | succ d ih =>
    intro i at_ ha h
    have h1 : i < l.length := by omega
    refine Ev.succ ?_
    simp only [flyleafref13_All.l1]
    refine Ev.pos (by omega) (Ev.pos (by omega) ?_)
    rw [rdT34_eq h1, List.drop_eq_getElem_cons h1]
    generalize hx : l[i] = x
    refine Ev.pure (ref_round _) (Ev.bind (ref_fits _ _ _ _ _ _ (by omega)) ?_)
    have key : ∀ b : Bool, (b = false ↔ (x.f1 ≠ 0 ∧ Int.tmod x.f1 64 = 0 ∧ fitsT l at_ low high x.f1 (rndT x.f0) = true)) →
        Ev (fun k => flyleafref13_All.j2 k l low high at_ (i : Int) x.f1 b) (l1T l low high (x :: l.drop (i + 1)) at_) := by
      intro b hb
      have hnext : ∀ p, putT l low high at_ x = some p → Ev (fun k => flyleafref13_All.l1 k l low high (at_ ++ [p]) (wrap64 ((i : Int) + 1))) (l1T l low high (x :: l.drop (i + 1)) at_) := by
        intro p hp
        rw [wrap_nat (by omega)]
        refine Ev.eq (ih (i + 1) (at_ ++ [p]) (by simp [ha]) (by omega)) ?_
        simp only [l1T, goT, hp, Option.bind_some]
      refine Ev.succ ?_
      simp only [flyleafref13_All.j2]
      cases b with
      | false =>
        have hp : putT l low high at_ x = some x.f1 := by unfold putT; rw [if_pos (hb.1 rfl)]
        simp only [if_neg (show ¬ (false = true) by decide)]
        exact Ev.pos (by omega) (hnext _ hp)
      | true =>
        have hn : ¬ (x.f1 ≠ 0 ∧ Int.tmod x.f1 64 = 0 ∧ fitsT l at_ low high x.f1 (rndT x.f0) = true) := fun h => by have := hb.2 h; cases this
        simp only [if_true]
        refine Ev.pos (by omega) (Ev.pos (by omega) ?_)
        rw [rdT34_eq h1, hx]
        refine Ev.bind (ref_free _ _ _ _ _ (by omega) (by intro e; rw [e] at h1; simp at h1)) ?_
        by_cases hf : (freeT l at_ low high x.f0).2 = true
        · have hp : putT l low high at_ x = some (freeT l at_ low high x.f0).1 := by unfold putT; rw [if_neg hn, if_pos hf]
          exact Ev.pos hf (Ev.pos (by omega) (hnext _ hp))
        · have hp : putT l low high at_ x = none := by unfold putT; rw [if_neg hn, if_neg hf]
          refine Ev.neg hf (Ev.some ?_)
          simp [l1T, goT, hp]
    by_cases c1 : x.f1 = 0
    · exact Ev.pos c1 (key true (by simp [c1]))
    · refine Ev.neg c1 ?_
      by_cases c2 : Int.tmod x.f1 64 = 0
      · exact Ev.pos c2 (key _ (by simp [c1, c2]))
      · exact Ev.neg c2 (key true (by simp [c2]))
theorem ref_l0 (l : List S34) (low high : Int) (hl : l.length ≤ 8796093022208) (d : Nat) : ∀ (i : Nat), l.length = i + d → (l.take i).all okW = true →
    Ev (fun k => flyleafref13_All.l0 k l low high (i : Int)) (if l.all okW = true then l1T l low high l [] else ([], 1)) := by
  induction d with
  | zero =>
    intro i h ha
    have e : l.take i = l := List.take_of_length_le (by omega)
    rw [e] at ha
    refine Ev.succ ?_
    simp only [flyleafref13_All.l0]
    refine Ev.neg (by omega) ?_
    rw [if_pos ha]
    exact ref_l1 l low high hl l.length 0 [] rfl (by omega)
  | succ d ih =>
    intro i h ha
    have h1 : i < l.length := by omega
    refine Ev.succ ?_
    simp only [flyleafref13_All.l0]
    refine Ev.pos (by omega) (Ev.pos (by omega) ?_)
    rw [rdT34_eq h1]
    have bad : okW l[i] = false → (if l.all okW = true then l1T l low high l [] else ([], 1)) = (([] : List Int), (1 : Int)) := by
      intro hb
      rw [if_neg]
      intro hall
      rw [List.all_eq_true] at hall
      have := hall l[i] (List.getElem_mem h1)
      rw [hb] at this; cases this
    by_cases c1 : l[i].f0 < 1
    · exact Ev.pos c1 (Ev.some (bad (by simp only [okW]; exact decide_eq_false (by omega))).symm)
    · refine Ev.neg c1 ?_
      by_cases c2 : l[i].f0 > 1099511627776
      · exact Ev.pos c2 (Ev.some (bad (by simp only [okW]; exact decide_eq_false (by omega))).symm)
      · refine Ev.neg c2 ?_
        by_cases c3 : l[i].f1 < 0
        · exact Ev.pos c3 (Ev.some (bad (by simp only [okW]; exact decide_eq_false (by omega))).symm)
        · refine Ev.neg c3 ?_
          by_cases c4 : l[i].f1 > 1099511627776
          · exact Ev.pos c4 (Ev.some (bad (by simp only [okW]; exact decide_eq_false (by omega))).symm)
          · refine Ev.neg c4 ?_
            rw [wrap_nat (by omega)]
            refine ih (i + 1) (by omega) ?_
            rw [List.take_succ_eq_append_getElem h1, List.all_append, ha]
            have : okW l[i] = true := by simp only [okW]; exact decide_eq_true (by omega)
            simp [this]
theorem ref_all (l : List S34) (low high : Int) (hl : l.length ≤ 8796093022208) : Ev (fun k => flyleafref13_All.f k l low high) (allT l low high) := by
  unfold flyleafref13_All.f allT
  refine Ev.pure (ref_room low high) ?_
  by_cases c : roomT low high = true
  · rw [if_pos c]
    exact Ev.pos c (ref_l0 l low high hl l.length 0 (by omega) rfl)
  · rw [if_neg c]
    exact Ev.neg c (Ev.some rfl)
theorem few_eq (l : List S34) : flyleaflaw13_few.f l = some (l.take 12) := by
  unfold flyleaflaw13_few.f
  by_cases c : (l.length : Int) > 12
  · rw [if_pos c, if_pos (by omega)]
  · rw [if_neg c, List.take_of_length_le (by omega)]
theorem goT_length (l : List S34) (low high : Int) (xs : List S34) : ∀ (at_ r : List Int), goT l low high xs at_ = some r → r.length = at_.length + xs.length := by
  induction xs with
  | nil => intro at_ r h; simp [goT] at h; subst h; simp
  | cons x xs ih =>
    intro at_ r h
    simp only [goT, Option.bind_eq_some_iff] at h
    obtain ⟨p, _, h⟩ := h
    have := ih _ _ h
    simp at this ⊢; omega
theorem allT_length (l : List S34) (low high : Int) : (allT l low high).1.length ≤ l.length := by
  unfold allT
  split
  · split
    · cases h : goT l low high l [] with
      | none => simp
      | some r => have := goT_length l low high l [] r h; simp at this ⊢; omega
    · simp
  · simp
/-- THE PURE STATEMENT. -/
theorem PlaceAll : Pl.PlaceAll.Said := by
  intro l low high _ _ _
  refine Ev.rounds ?_
  unfold flyleaflaw13_PlaceAll.f
  have h12 : (l.take 12).length ≤ 12 := by simp; omega
  have hal := allT_length (l.take 12) low high
  refine Ev.bind awake_ev (Ev.pure (few_eq l) (Ev.bind (all_ev _ _ _ (by omega)) (Ev.bind (ref_all _ _ _ (by omega)) (Ev.bind (same_ev _ _ (by omega)) ?_))))
  simp only [decide_true, if_true]
  exact Ev.some (by simp)

end Go.Proofs.Ytafmeagfockdfaa.Pure
