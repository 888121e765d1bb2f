/-
  What is true of things that were placed one behind the other: each lies in the room, at a whole page, meets none before it, gets the place that it likes if that is free, and else lies as low as can be.
-/
import Derived.Test.YtafmeagfockdfaaPlSem
namespace Go.Proofs.Ytafmeagfockdfaa.Pl
open Go.RowKit Go.Proofs.YtafmeagfockdfaaW.PrintWords Go.Proofs.YtafmeagfockdfaaW.PrintMore

theorem rndT_mid {a : Int} (h0 : 0 ≤ a) (h1 : a ≤ 1099511627776) : rndT a = (a + 63) / 64 * 64 := by
  have e1 : mx a 0 = a := if_neg (by omega)
  have e2 : mn a 1099511627776 = a := if_neg (by omega)
  unfold rndT; rw [e1, e2]
def ClearZ (zs : List (S34 × Int)) (p n : Int) : Prop := ∀ z ∈ zs, ¬ (z.2 < p + n ∧ p < z.2 + rndT z.1.f0)
def StepZ (low high : Int) (pre : List (S34 × Int)) (z : S34 × Int) : Prop :=
  low ≤ z.2 ∧ z.2 + rndT z.1.f0 ≤ high ∧ z.2 % 64 = 0 ∧ ClearZ pre z.2 (rndT z.1.f0) ∧
  (z.1.f1 ≠ 0 → z.1.f1 % 64 = 0 → low ≤ z.1.f1 → z.1.f1 + rndT z.1.f0 ≤ high → ClearZ pre z.1.f1 (rndT z.1.f0) → z.2 = z.1.f1) ∧
  (z.1.f1 = 0 → ∀ q, low ≤ q → q % 64 = 0 → q + rndT z.1.f0 ≤ high → ClearZ pre q (rndT z.1.f0) → z.2 ≤ q)
def OkZ (low high : Int) : List (S34 × Int) → List (S34 × Int) → Prop
  | _, [] => True
  | pre, z :: zs => StepZ low high pre z ∧ OkZ low high (pre ++ [z]) zs
theorem okZ_get {low high : Int} (zs : List (S34 × Int)) : ∀ (pre : List (S34 × Int)), OkZ low high pre zs → ∀ (i : Nat) (h : i < zs.length), StepZ low high (pre ++ zs.take i) zs[i] := by
  induction zs with
  | nil => intro pre _ i h; simp at h
  | cons z zs ih =>
    intro pre h i hi
    cases i with
    | zero => simpa using h.1
    | succ i =>
      have := ih (pre ++ [z]) h.2 i (by simpa using hi)
      simpa using this
/-- From a free place one can slide down to one that is tried. -/
theorem slide (zs : List (S34 × Int)) (low p n : Int) (hlow : low ≤ p) (hc : ClearZ zs p n) :
    ∃ q, (q = low ∨ ∃ z ∈ zs, q = z.2 + rndT z.1.f0) ∧ low ≤ q ∧ q ≤ p ∧ ClearZ zs q n := by
  have hmax : ∀ (l : List Int), ∃ q, (q = low ∨ q ∈ l) ∧ low ≤ q ∧ q ≤ p ∧ ∀ e ∈ l, e ≤ p → e ≤ q := by
    intro l
    induction l with
    | nil => exact ⟨low, .inl rfl, Int.le_refl _, hlow, fun e h => by cases h⟩
    | cons a l ih =>
      obtain ⟨q, h1, h2, h3, h4⟩ := ih
      by_cases c : a ≤ p ∧ q < a
      · refine ⟨a, .inr List.mem_cons_self, by omega, c.1, fun e he hle => ?_⟩
        rcases List.mem_cons.1 he with rfl | he
        · exact Int.le_refl _
        · have := h4 e he hle; omega
      · refine ⟨q, h1.imp id (List.mem_cons_of_mem _), h2, h3, fun e he hle => ?_⟩
        rcases List.mem_cons.1 he with rfl | he
        · omega
        · exact h4 e he hle
  obtain ⟨q, h1, h2, h3, h4⟩ := hmax (zs.map fun z => z.2 + rndT z.1.f0)
  refine ⟨q, h1.imp id (fun h => by obtain ⟨z, hz, e⟩ := List.mem_map.1 h; exact ⟨z, hz, e.symm⟩), h2, h3, fun z hz hm => ?_⟩
  have := hc z hz
  have he := h4 (z.2 + rndT z.1.f0) (List.mem_map.2 ⟨z, hz, rfl⟩)
  omega
/-- What is placed next. -/
theorem put_spec {full : List S34} {low high : Int} {at_ : List Int} {x : S34} {p : Int} (hroom : roomT low high = true) (hx : 1 ≤ x.f0 ∧ x.f0 ≤ 1099511627776) (hx1 : 0 ≤ x.f1) (hl : ∀ y ∈ full, 1 ≤ y.f0)
    (hat : ∀ a ∈ at_, 0 ≤ a ∧ a ≤ 10000000000 ∧ a % 64 = 0) (hp : putT full low high at_ x = some p) : StepZ low high (full.zip at_) (x, p) := by
  have hr := rndT_pos x.f0
  have hrr : 0 < rndT x.f0 := by rw [rndT_mid (by omega) (by omega)]; omega
  have hrm : 0 ≤ low ∧ high ≤ 1099511627776 ∧ low ≤ high ∧ low % 64 = 0 ∧ high % 64 = 0 := of_decide_eq_true hroom
  have fits := fun q => fits_iff (l := full) (at_ := at_) (low := low) (high := high) (p := q) (n := rndT x.f0) (fun a ha => by have := hat a ha; omega) hl hrm.1 (by omega) hrr (by omega)
  have hz : ∀ z ∈ full.zip at_, 0 ≤ z.2 ∧ z.2 ≤ 10000000000 ∧ z.2 % 64 = 0 ∧ wrap64 (z.2 + rndT z.1.f0) = z.2 + rndT z.1.f0 := fun z hz => by
    have h1 := hat z.2 (List.of_mem_zip hz).2
    have h2 := rndT_pos z.1.f0
    exact ⟨h1.1, h1.2.1, h1.2.2, by unfold wrap64; omega⟩
  unfold putT at hp
  by_cases c : x.f1 ≠ 0 ∧ Int.tmod x.f1 64 = 0 ∧ fitsT full at_ low high x.f1 (rndT x.f0) = true
  · rw [if_pos c] at hp
    cases hp
    have hf := (fits _).1 c.2.2
    have hm := c.2.1
    rw [tmod_nonneg hx1] at hm
    exact ⟨hf.1, hf.2.1, hm, hf.2.2, fun _ _ _ _ _ => rfl, fun h => absurd h c.1⟩
  · rw [if_neg c] at hp
    by_cases c2 : (freeT full at_ low high x.f0).2 = true
    · rw [if_pos c2] at hp
      cases hp
      obtain ⟨_, f2⟩ := free_spec full at_ low high x.f0 hroom hx.1
      obtain ⟨m1, m2, m3, m4⟩ := f2 c2
      have hf := (fits _).1 m3
      rw [tmod_nonneg (by omega)] at m2
      refine ⟨hf.1, hf.2.1, m2, hf.2.2, fun h1 h2 h3 h4 h5 => ?_, fun _ q h1 h2 h3 h4 => ?_⟩
      · exact absurd ⟨h1, by rw [tmod_nonneg hx1]; exact h2, (fits _).2 ⟨h3, h4, h5⟩⟩ c
      · have h3' : q + rndT x.f0 ≤ high := h3
        obtain ⟨r, r1, r2, r3, r4⟩ := slide (full.zip at_) low q (rndT x.f0) h1 h4
        have hmem : r ∈ placesT full at_ low := by
          rcases r1 with rfl | ⟨z, hz', rfl⟩
          · exact List.mem_cons_self
          · exact List.mem_cons_of_mem _ (List.mem_map.2 ⟨z, hz', (hz z hz').2.2.2⟩)
        have hmod : r % 64 = 0 := by
          rcases r1 with rfl | ⟨z, hz', rfl⟩
          · exact hrm.2.2.2.1
          · have h1 := (hz z hz').2.2.1; have h2 := rndT_pos z.1.f0; omega
        have := m4 r hmem (by rw [tmod_nonneg (by omega)]; exact hmod) ((fits r).2 ⟨r2, by omega, r4⟩)
        show _ ≤ q
        omega
    · rw [if_neg c2] at hp; cases hp
theorem zip_pre {α β : Type} : ∀ (done : List α) (at_ : List β) (rest : List α), at_.length = done.length → (done ++ rest).zip at_ = done.zip at_
  | [], [], rest, _ => by simp
  | [], b :: bs, rest, h => by simp at h
  | a :: as_, [], rest, h => by simp at h
  | a :: as_, b :: bs, rest, h => by
    simp only [List.cons_append, List.zip_cons_cons]
    rw [zip_pre as_ bs rest (by simpa using h)]
theorem zip_snoc {α β : Type} : ∀ (done : List α) (at_ : List β) (x : α) (y : β), at_.length = done.length → (done ++ [x]).zip (at_ ++ [y]) = done.zip at_ ++ [(x, y)]
  | [], [], x, y, _ => by simp
  | [], b :: bs, x, y, h => by simp at h
  | a :: as_, [], x, y, h => by simp at h
  | a :: as_, b :: bs, x, y, h => by
    simp only [List.cons_append, List.zip_cons_cons]
    rw [zip_snoc as_ bs x y (by simpa using h)]
theorem go_spec {full : List S34} {low high : Int} (hroom : roomT low high = true) (hh : high ≤ 10000000000) (hl : ∀ y ∈ full, 1 ≤ y.f0 ∧ y.f0 ≤ 1099511627776 ∧ 0 ≤ y.f1) (rest : List S34) : ∀ (done : List S34) (at_ r : List Int), full = done ++ rest → at_.length = done.length →
    (∀ a ∈ at_, 0 ≤ a ∧ a ≤ 10000000000 ∧ a % 64 = 0) → goT full low high rest at_ = some r → ∃ ps, r = at_ ++ ps ∧ ps.length = rest.length ∧ OkZ low high (done.zip at_) (rest.zip ps) := by
  have hrm : 0 ≤ low ∧ high ≤ 1099511627776 ∧ low ≤ high ∧ low % 64 = 0 ∧ high % 64 = 0 := of_decide_eq_true hroom
  induction rest with
  | nil =>
    intro done at_ r _ _ _ h
    simp only [goT, Option.some.injEq] at h
    exact ⟨[], by simp [h], rfl, trivial⟩
  | cons x rest ih =>
    intro done at_ r hf hlen hat h
    simp only [goT, Option.bind_eq_some_iff] at h
    obtain ⟨p, hp, h⟩ := h
    have hx := hl x (by rw [hf]; simp)
    have hs := put_spec hroom ⟨hx.1, hx.2.1⟩ hx.2.2 (fun y hy => (hl y hy).1) hat hp
    have hzip : full.zip at_ = done.zip at_ := by rw [hf]; exact zip_pre done at_ _ hlen
    rw [hzip] at hs
    have hr := rndT_pos x.f0
    obtain ⟨ps, e1, e2, e3⟩ := ih (done ++ [x]) (at_ ++ [p]) r (by rw [hf]; simp) (by simp [hlen]) (by
      intro a ha
      rcases List.mem_append.1 ha with ha | ha
      · exact hat a ha
      · simp at ha; subst ha; obtain ⟨h1, h2, h3, _⟩ := hs; simp only at h1 h2 h3; exact ⟨by omega, by omega, h3⟩) h
    refine ⟨p :: ps, by rw [e1]; simp, by simp [e2], ?_⟩
    have hz2 : (done ++ [x]).zip (at_ ++ [p]) = done.zip at_ ++ [(x, p)] := zip_snoc done at_ x p hlen
    rw [hz2] at e3
    exact ⟨hs, e3⟩
end Go.Proofs.Ytafmeagfockdfaa.Pl
