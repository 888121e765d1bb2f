/-
  What meetT, fitsT and freeT mean, where all numbers are small: ranges that have a number in common; the least place that is free.
-/
import Derived.Test.YtafmeagfockdfaaPlAll
namespace Go.Proofs.Ytafmeagfockdfaa.Pl
open Go.RowKit Go.Proofs.YtafmeagfockdfaaW.PrintWords Go.Proofs.YtafmeagfockdfaaW.PrintLast Go.Proofs.YtafmeagfockdfaaW.PrintMore

theorem u64_small {x : Int} (h0 : 0 ≤ x) (h1 : x ≤ 1000000000000000) : IntKind.u64.wrap x = x := by
  simp [IntKind.wrap, IntKind.bits, IntKind.signed]; omega
theorem meet_iff {a na b nb : Int} (ha : 0 ≤ a) (ha' : a ≤ 10000000000000) (hb : 0 ≤ b) (hb' : b ≤ 10000000000000) (hna : na ≤ 10000000000000) (hnb : nb ≤ 10000000000000) :
    meetT a na b nb = true ↔ 0 < na ∧ 0 < nb ∧ a < b + nb ∧ b < a + na := by
  unfold meetT
  by_cases h1 : na ≤ 0 ∨ nb ≤ 0
  · rw [if_pos h1]; constructor
    · intro h; cases h
    · omega
  · rw [if_neg h1]
    have e1 := u64_small ha (by omega)
    have e2 := u64_small hb (by omega)
    have e3 : IntKind.u64.wrap na = na := u64_small (by omega) (by omega)
    have e4 : IntKind.u64.wrap nb = nb := u64_small (by omega) (by omega)
    rw [e1, e2, e3, e4]
    by_cases h3 : a ≤ b
    · rw [if_pos h3, u64_small (by omega) (by omega), decide_eq_true_iff]; omega
    · rw [if_neg h3, u64_small (by omega) (by omega), decide_eq_true_iff]; omega
/-- Is a place free (of things that stand at small places)? -/
def Clear (l : List S34) (at_ : List Int) (p n : Int) : Prop := ∀ x, x ∈ l.zip at_ → ¬ (x.2 < p + n ∧ p < x.2 + rndT x.1.f0)
theorem fits_iff {l : List S34} {at_ : List Int} {low high p n : Int} (hat : ∀ a ∈ at_, 0 ≤ a ∧ a ≤ 10000000000000) (hl : ∀ x ∈ l, 1 ≤ x.f0) (hlow : 0 ≤ low) (hh : high ≤ 10000000000000) (hn : 0 < n) (hn' : n ≤ 10000000000000) :
    fitsT l at_ low high p n = true ↔ low ≤ p ∧ p + n ≤ high ∧ Clear l at_ p n := by
  unfold fitsT
  by_cases h1 : p < low ∨ p > high ∨ wrap64 (high - p) < n
  · rw [if_pos h1]
    constructor
    · intro h; cases h
    · rintro ⟨h2, h3, _⟩
      unfold wrap64 at h1
      omega
  · rw [if_neg h1]
    have h2 : low ≤ p ∧ p + n ≤ high := by unfold wrap64 at h1; omega
    constructor
    · intro h
      refine ⟨h2.1, h2.2, fun x hx hmeet => ?_⟩
      have ha := hat x.2 (List.of_mem_zip hx).2
      have hf := hl x.1 (List.of_mem_zip hx).1
      have hr := rndT_pos x.1.f0
      have h' : anyT l at_ p n = true := by
        unfold anyT
        rw [List.any_eq_true]
        refine ⟨x, hx, (meet_iff ha.1 ha.2 (by omega) (by omega) (by omega) (by omega)).2 ⟨?_, hn, hmeet.1, hmeet.2⟩⟩
        unfold rndT mn mx; split <;> split <;> omega
      rw [h'] at h; cases h
    · rintro ⟨_, _, hc⟩
      have h' : anyT l at_ p n = false := by
        unfold anyT
        rw [List.any_eq_false]
        intro x hx hm
        have ha := hat x.2 (List.of_mem_zip hx).2
        have hr := rndT_pos x.1.f0
        have := (meet_iff ha.1 ha.2 (by omega) (by omega) (by omega) (by omega)).1 hm
        exact hc x hx ⟨this.2.2.1, this.2.2.2⟩
      rw [h']; rfl
/-- The least one of a row that a test lets. -/
theorem least_spec (ok : Int → Bool) (ps : List Int) : ∀ (b : Int) (f : Bool),
    ((ps.foldl (fun st p => if ok p = true ∧ (st.2 = false ∨ p < st.1) then (p, true) else st) (b, f)).2 = true ↔ f = true ∨ ∃ p ∈ ps, ok p = true) ∧
    ((ps.foldl (fun st p => if ok p = true ∧ (st.2 = false ∨ p < st.1) then (p, true) else st) (b, f)).2 = true →
      (((ps.foldl (fun st p => if ok p = true ∧ (st.2 = false ∨ p < st.1) then (p, true) else st) (b, f)).1 ∈ ps ∧ ok (ps.foldl (fun st p => if ok p = true ∧ (st.2 = false ∨ p < st.1) then (p, true) else st) (b, f)).1 = true) ∨
        (f = true ∧ (ps.foldl (fun st p => if ok p = true ∧ (st.2 = false ∨ p < st.1) then (p, true) else st) (b, f)).1 = b)) ∧
      (f = true → (ps.foldl (fun st p => if ok p = true ∧ (st.2 = false ∨ p < st.1) then (p, true) else st) (b, f)).1 ≤ b) ∧
      ∀ p ∈ ps, ok p = true → (ps.foldl (fun st p => if ok p = true ∧ (st.2 = false ∨ p < st.1) then (p, true) else st) (b, f)).1 ≤ p) := by
  induction ps with
  | nil =>
    intro b f
    refine ⟨by simp, fun h => ⟨.inr ⟨h, rfl⟩, fun _ => Int.le_refl _, fun p hp => by cases hp⟩⟩
  | cons q ps ih =>
    intro b f
    simp only [List.foldl_cons]
    by_cases c : ok q = true ∧ (f = false ∨ q < b)
    · rw [if_pos c]
      obtain ⟨i1, i2⟩ := ih q true
      generalize hst : (ps.foldl (fun st p => if ok p = true ∧ (st.2 = false ∨ p < st.1) then (p, true) else st) (q, true)) = st at i1 i2 ⊢
      have ht : st.2 = true := i1.2 (.inl rfl)
      obtain ⟨j1, j2, j3⟩ := i2 ht
      refine ⟨⟨fun _ => .inr ⟨q, by simp, c.1⟩, fun _ => ht⟩, fun _ => ⟨?_, ?_, ?_⟩⟩
      · rcases j1 with ⟨m1, m2⟩ | ⟨_, m⟩
        · exact .inl ⟨List.mem_cons_of_mem _ m1, m2⟩
        · exact .inl ⟨by rw [m]; simp, by rw [m]; exact c.1⟩
      · intro hf
        have := j2 rfl
        rcases c.2 with h | h
        · rw [hf] at h; cases h
        · omega
      · intro p hp hok
        rcases List.mem_cons.1 hp with rfl | hp
        · exact j2 rfl
        · exact j3 p hp hok
    · rw [if_neg c]
      obtain ⟨i1, i2⟩ := ih b f
      generalize hst : (ps.foldl (fun st p => if ok p = true ∧ (st.2 = false ∨ p < st.1) then (p, true) else st) (b, f)) = st at i1 i2 ⊢
      have hq : ok q = true → f = true ∧ b ≤ q := fun hok => by
        cases f
        · exact absurd ⟨hok, .inl rfl⟩ c
        · exact ⟨rfl, by by_cases h : q < b
                         · exact absurd ⟨hok, .inr h⟩ c
                         · omega⟩
      refine ⟨⟨fun h => ?_, fun h => ?_⟩, fun ht => ?_⟩
      · rcases i1.1 h with h | ⟨p, hp, hok⟩
        · exact .inl h
        · exact .inr ⟨p, List.mem_cons_of_mem _ hp, hok⟩
      · refine i1.2 ?_
        rcases h with h | ⟨p, hp, hok⟩
        · exact .inl h
        · rcases List.mem_cons.1 hp with rfl | hp
          · exact .inl (hq hok).1
          · exact .inr ⟨p, hp, hok⟩
      · obtain ⟨j1, j2, j3⟩ := i2 ht
        refine ⟨?_, j2, ?_⟩
        · rcases j1 with ⟨m1, m2⟩ | m
          · exact .inl ⟨List.mem_cons_of_mem _ m1, m2⟩
          · exact .inr m
        · intro p hp hok
          rcases List.mem_cons.1 hp with rfl | hp
          · have := hq hok
            have := j2 this.1
            omega
          · exact j3 p hp hok
theorem one_eq (l : List S34) (at_ : List Int) (low high n : Int) :
    oneT l at_ low high n = fun st p => if (decide (Int.tmod p 64 = 0) && fitsT l at_ low high p n) = true ∧ (st.2 = false ∨ p < st.1) then (p, true) else st := by
  funext st p
  unfold oneT
  by_cases h1 : Int.tmod p 64 = 0 <;> by_cases h2 : (st.2 = false ∨ p < st.1) <;> by_cases h3 : fitsT l at_ low high p n = true <;> simp [h1, h2, h3]
/-- Free: the least of the places that are tried. -/
theorem free_spec (l : List S34) (at_ : List Int) (low high size : Int) (hroom : roomT low high = true) (hs : 1 ≤ size) :
    ((freeT l at_ low high size).2 = true ↔ ∃ p ∈ placesT l at_ low, Int.tmod p 64 = 0 ∧ fitsT l at_ low high p (rndT size) = true) ∧
    ((freeT l at_ low high size).2 = true → (freeT l at_ low high size).1 ∈ placesT l at_ low ∧ Int.tmod (freeT l at_ low high size).1 64 = 0 ∧ fitsT l at_ low high (freeT l at_ low high size).1 (rndT size) = true ∧
      ∀ p ∈ placesT l at_ low, Int.tmod p 64 = 0 → fitsT l at_ low high p (rndT size) = true → (freeT l at_ low high size).1 ≤ p) := by
  have hf : freeT l at_ low high size = (placesT l at_ low).foldl (oneT l at_ low high (rndT size)) (0, false) := by unfold freeT; rw [if_pos ⟨hroom, hs⟩]
  rw [hf, one_eq]
  obtain ⟨h1, h2⟩ := least_spec (fun p => decide (Int.tmod p 64 = 0) && fitsT l at_ low high p (rndT size)) (placesT l at_ low) 0 false
  generalize ((placesT l at_ low).foldl (fun st p => if (decide (Int.tmod p 64 = 0) && fitsT l at_ low high p (rndT size)) = true ∧ (st.2 = false ∨ p < st.1) then (p, true) else st) (0, false)) = st at h1 h2 ⊢
  simp only [Bool.and_eq_true, decide_eq_true_eq] at h1 h2
  refine ⟨h1.trans ⟨fun h => h.resolve_left (by decide), .inr⟩, fun ht => ?_⟩
  obtain ⟨j1, _, j3⟩ := h2 ht
  obtain ⟨m1, m2⟩ := j1.resolve_right (fun h => by cases h.1)
  exact ⟨m1, m2.1, m2.2, fun p hp ha hb => j3 p hp ⟨ha, hb⟩⟩
end Go.Proofs.Ytafmeagfockdfaa.Pl
