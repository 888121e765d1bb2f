/-
  PlaceLow, over numbers and lists: the last thing, which likes no place, lies as low as can be.
-/
import Derived.Test.YtafmeagfockdfaaOpPlaceLow
import Derived.Test.YtafmeagfockdfaaPlSame
import Derived.Test.YtafmeagfockdfaaPlGo
import Derived.Test.YtafmeagfockdfaaMask
namespace Go.Proofs.Ytafmeagfockdfaa.Pure
open Go.RowKit Go.Proofs.Ytafmeagfockdfaa.Pl Go.Proofs.YtafmeagfockdfaaW.PrintWords Go.Proofs.YtafmeagfockdfaaW.PrintMore

namespace Low
def mk (x : S32) : S34 := ⟨1 + x.f0 % 256, 64 * (x.f1 % 32)⟩
/-- All ends lie below a bound that goes up by a thing's size at most: so there is always room. -/
theorem go_some {full : List S34} (hl : ∀ y ∈ full, 1 ≤ y.f0 ∧ y.f0 ≤ 256 ∧ 0 ≤ y.f1 ∧ y.f1 ≤ 1984 ∧ y.f1 % 64 = 0) (rest : List S34) : ∀ (done : List S34) (at_ : List Int), full = done ++ rest → at_.length = done.length → full.length ≤ 100 →
    (∀ a ∈ at_, 0 ≤ a ∧ a ≤ 10000000000 ∧ a % 64 = 0) → (∀ z ∈ done.zip at_, z.2 + rndT z.1.f0 ≤ 2304 + 256 * done.length) → ∃ r, goT full 0 65536 rest at_ = some r := by
  induction rest with
  | nil => intro done at_ _ _ _ _ _; exact ⟨at_, rfl⟩
  | cons x rest ih =>
    intro done at_ hf hlen h100 hat hend
    have hx := hl x (by rw [hf]; simp)
    have hr : rndT x.f0 ≤ 256 ∧ 0 < rndT x.f0 ∧ rndT x.f0 % 64 = 0 := by rw [rndT_mid (by omega) (by omega)]; omega
    have hdl : done.length + 1 + rest.length = full.length := by rw [hf]; simp; omega
    have hroom : roomT 0 65536 = true := by decide
    have hzip : full.zip at_ = done.zip at_ := by rw [hf]; exact zip_pre done at_ _ hlen
    have fits := fun q => fits_iff (l := full) (at_ := at_) (low := 0) (high := 65536) (p := q) (n := rndT x.f0) (fun a ha => by have := hat a ha; omega) (fun y hy => (hl y hy).1) (by omega) (by omega) hr.2.1 (by omega)
    have hput : ∃ p, putT full 0 65536 at_ x = some p ∧ 0 ≤ p ∧ p % 64 = 0 ∧ p + rndT x.f0 ≤ 2304 + 256 * (done.length + 1 : Nat) := by
      unfold putT
      by_cases c : x.f1 ≠ 0 ∧ Int.tmod x.f1 64 = 0 ∧ fitsT full at_ 0 65536 x.f1 (rndT x.f0) = true
      · rw [if_pos c]
        exact ⟨x.f1, rfl, by omega, by omega, by omega⟩
      · rw [if_neg c]
        obtain ⟨f1, f2⟩ := free_spec full at_ 0 65536 x.f0 hroom hx.1
        -- the greatest end
        have hmax : ∃ e, e ∈ placesT full at_ 0 ∧ 0 ≤ e ∧ e % 64 = 0 ∧ e ≤ 2304 + 256 * done.length ∧ ∀ z ∈ done.zip at_, z.2 + rndT z.1.f0 ≤ e := by
          have key : ∀ zs : List (S34 × Int), (∀ z ∈ zs, 0 ≤ z.2 ∧ z.2 % 64 = 0 ∧ z.2 + rndT z.1.f0 ≤ 2304 + 256 * done.length) → ∃ e, (e = 0 ∨ ∃ z ∈ zs, e = z.2 + rndT z.1.f0) ∧ 0 ≤ e ∧ e % 64 = 0 ∧ e ≤ 2304 + 256 * done.length ∧ ∀ z ∈ zs, z.2 + rndT z.1.f0 ≤ e := by
            intro zs
            induction zs with
            | nil => intro _; exact ⟨0, .inl rfl, by omega, by omega, by omega, fun z h => by cases h⟩
            | cons z zs ihz =>
              intro hzs
              obtain ⟨e, e1, e2, e3, e4, e5⟩ := ihz (fun y hy => hzs y (List.mem_cons_of_mem _ hy))
              have hz := hzs z List.mem_cons_self
              have hp := rndT_pos z.1.f0
              by_cases c : e < z.2 + rndT z.1.f0
              · refine ⟨z.2 + rndT z.1.f0, .inr ⟨z, List.mem_cons_self, rfl⟩, by omega, by omega, hz.2.2, fun y hy => ?_⟩
                rcases List.mem_cons.1 hy with rfl | hy
                · exact Int.le_refl _
                · have := e5 y hy; omega
              · refine ⟨e, e1.imp id (fun ⟨y, hy, h⟩ => ⟨y, List.mem_cons_of_mem _ hy, h⟩), e2, e3, e4, fun y hy => ?_⟩
                rcases List.mem_cons.1 hy with rfl | hy
                · omega
                · exact e5 y hy
          obtain ⟨e, e1, e2, e3, e4, e5⟩ := key (done.zip at_) (fun z hz => by have h1 := hat z.2 (List.of_mem_zip hz).2; exact ⟨h1.1, h1.2.2, hend z hz⟩)
          refine ⟨e, ?_, e2, e3, e4, e5⟩
          rcases e1 with rfl | ⟨z, hz, rfl⟩
          · exact List.mem_cons_self
          · refine List.mem_cons_of_mem _ (List.mem_map.2 ⟨z, by rw [hzip]; exact hz, ?_⟩)
            unfold wrap64; omega
        obtain ⟨e, m1, m2, m3, m4, m5⟩ := hmax
        have hfe : fitsT full at_ 0 65536 e (rndT x.f0) = true := (fits e).2 ⟨m2, by omega, fun z hz hm => by rw [hzip] at hz; have := m5 z hz; omega⟩
        have ht := f1.2 ⟨e, m1, by rw [tmod_nonneg m2]; exact m3, hfe⟩
        obtain ⟨q1, q2, q3, q4⟩ := f2 ht
        have hq := q4 e m1 (by rw [tmod_nonneg m2]; exact m3) hfe
        have hf1 := (fits _).1 q3
        rw [tmod_nonneg hf1.1] at q2
        rw [if_pos ht]
        exact ⟨_, rfl, hf1.1, q2, by omega⟩
    obtain ⟨p, hp, p0, p1, p2⟩ := hput
    simp only [goT, hp, Option.bind_some]
    refine ih (done ++ [x]) (at_ ++ [p]) (by rw [hf]; simp) (by simp [hlen]) h100 ?_ ?_
    · intro a ha
      rcases List.mem_append.1 ha with ha | ha
      · exact hat a ha
      · simp at ha; subst ha; omega
    · intro z hz
      rw [zip_snoc done at_ x p hlen] at hz
      simp only [List.length_append, List.length_cons, List.length_nil]
      rcases List.mem_append.1 hz with hz | hz
      · have := hend z hz; omega
      · simp at hz; subst hz; exact p2
/-- The size in whole pages, as the statement reckons it. -/
theorem round_is {a : Int} (h0 : 1 ≤ a) (h1 : a ≤ 512) : wrap64 (wrap64 (Int.tdiv (wrap64 (a + 63)) 64) * 64) = rndT a := by
  rw [rndT_mid (by omega) (by omega)]
  have e1 : wrap64 (a + 63) = a + 63 := by unfold wrap64; omega
  have e2 : Int.tdiv (a + 63) 64 = (a + 63) / 64 := Int.tdiv_eq_ediv_of_nonneg (by omega)
  rw [e1, e2]
  unfold wrap64; omega
end Low
open Low
/-- The inner loop where the flag is down already. -/
theorem low_l2_false (m : List S34) (at_ : List Int) (last n p : Int) (r : Bool) (hl1 : Ev (fun k => flyleaflaw13_PlaceLow.l1 k true m at_ last n (wrap64 (p + 64))) r) (hlast : last ≤ m.length) (hm : m.length ≤ 100) (d : Nat) : ∀ j : Nat, last = ((j + d : Nat) : Int) →
    Ev (fun k => flyleaflaw13_PlaceLow.l2 k true m at_ last n p false (j : Int)) r := by
  induction d with
  | zero =>
    intro j h
    refine Ev.succ ?_
    simp only [flyleaflaw13_PlaceLow.l2]
    refine Ev.neg (by omega) ?_
    simp only [if_neg (show ¬ (false = true) by decide)]
    exact hl1
  | succ d ih =>
    intro j h
    refine Ev.succ ?_
    simp only [flyleaflaw13_PlaceLow.l2]
    refine Ev.pos (by omega) (Ev.pos (by omega) (Ev.pos (by omega) ?_))
    simp only [if_neg (show ¬ (false = true) by decide)]
    rw [wrap_nat (by omega)]
    exact ih (j + 1) (by omega)
theorem low_l2_true (m : List S34) (at_ : List Int) (last n p : Int) (r : Bool) (hl1 : Ev (fun k => flyleaflaw13_PlaceLow.l1 k true m at_ last n (wrap64 (p + 64))) r) (hlast : last ≤ m.length) (_hla : last ≤ at_.length) (hm : m.length ≤ 100)
    (hmm : ∀ y ∈ m, 1 ≤ y.f0 ∧ y.f0 ≤ 256) (hat : ∀ a ∈ at_, 0 ≤ a ∧ a ≤ 100000) (hp : 0 ≤ p ∧ p ≤ 100000) (hn : 0 ≤ n ∧ n ≤ 1000) (d : Nat) : ∀ j : Nat, last = ((j + d : Nat) : Int) →
    (∃ i : Nat, j ≤ i ∧ ∃ (h1 : i < m.length) (h2 : i < at_.length), (i : Int) < last ∧ at_[i] < p + n ∧ p < at_[i] + rndT m[i].f0) →
    Ev (fun k => flyleaflaw13_PlaceLow.l2 k true m at_ last n p true (j : Int)) r := by
  induction d with
  | zero => rintro j h ⟨i, h1, h2, h3, h4, _⟩; omega
  | succ d ih =>
    rintro j h ⟨i, hi, h1, h2, h3, h4, h5⟩
    have hj1 : j < m.length := by omega
    have hj2 : j < at_.length := by omega
    refine Ev.succ ?_
    simp only [flyleaflaw13_PlaceLow.l2]
    refine Ev.pos (by omega) (Ev.pos (by omega) (Ev.pos (by omega) ?_))
    simp only [if_true]
    refine Ev.pos (by omega) ?_
    have hmj := hmm m[j] (List.getElem_mem hj1)
    have haj := hat at_[j] (List.getElem_mem hj2)
    have hrp := rndT_pos m[j].f0
    have hr2 : rndT m[j].f0 ≤ 256 := by rw [rndT_mid (by omega) (by omega)]; omega
    rw [rd_eq hj2, rdT34_eq hj1, round_is hmj.1 (by omega), wrap_nat (by omega)]
    have hw1 : wrap64 (at_[j] + rndT m[j].f0) = at_[j] + rndT m[j].f0 := by unfold wrap64; omega
    have hw2 : wrap64 (p + n) = p + n := by unfold wrap64; omega
    rw [hw1, hw2]
    by_cases e : i = j
    · subst e
      refine Ev.neg (by omega) ?_
      rw [decide_eq_false (by omega)]
      exact low_l2_false m at_ last n p r hl1 hlast hm d (i + 1) (by omega)
    · have hex : ∃ i : Nat, j + 1 ≤ i ∧ ∃ (h1 : i < m.length) (h2 : i < at_.length), (i : Int) < last ∧ at_[i] < p + n ∧ p < at_[i] + rndT m[i].f0 := ⟨i, by omega, h1, h2, h3, h4, h5⟩
      by_cases c1 : p ≥ at_[j] + rndT m[j].f0
      · exact Ev.pos c1 (ih (j + 1) (by omega) hex)
      · refine Ev.neg c1 ?_
        by_cases c2 : at_[j] ≥ p + n
        · rw [decide_eq_true c2]
          exact ih (j + 1) (by omega) hex
        · rw [decide_eq_false c2]
          exact low_l2_false m at_ last n p r hl1 hlast hm d (j + 1) (by omega)
theorem low_l1 (m : List S34) (at_ : List Int) (last : Nat) (n : Int) (hlast : last < at_.length) (hlm : last ≤ m.length) (hm : m.length ≤ 100) (hmm : ∀ y ∈ m, 1 ≤ y.f0 ∧ y.f0 ≤ 256) (hat : ∀ a ∈ at_, 0 ≤ a ∧ a ≤ 70000) (hn : 0 ≤ n ∧ n ≤ 1000)
    (hbad : ∀ p : Int, 0 ≤ p → p % 64 = 0 → p < at_[last] → ∃ i : Nat, ∃ (h1 : i < m.length) (h2 : i < at_.length), (i : Int) < last ∧ at_[i] < p + n ∧ p < at_[i] + rndT m[i].f0) (d : Nat) :
    ∀ p : Int, 0 ≤ p → p % 64 = 0 → p ≤ 100000 → at_[last] ≤ p + 64 * d → Ev (fun k => flyleaflaw13_PlaceLow.l1 k true m at_ (last : Int) n p) true := by
  have ha := hat at_[last] (List.getElem_mem hlast)
  induction d with
  | zero =>
    intro p h0 h1 h2 h3
    refine Ev.succ ?_
    simp only [flyleaflaw13_PlaceLow.l1]
    refine Ev.pos (by omega) (Ev.pos (by omega) ?_)
    rw [rd_eq hlast]
    exact Ev.neg (by omega) (Ev.some rfl)
  | succ d ih =>
    intro p h0 h1 h2 h3
    refine Ev.succ ?_
    simp only [flyleaflaw13_PlaceLow.l1]
    refine Ev.pos (by omega) (Ev.pos (by omega) ?_)
    rw [rd_eq hlast]
    by_cases c : p < at_[last]
    · refine Ev.pos c ?_
      have hw : wrap64 (p + 64) = p + 64 := by unfold wrap64; omega
      obtain ⟨i, q1, q2, q3, q4, q5⟩ := hbad p h0 h1 c
      refine low_l2_true m at_ (last : Int) n p true ?_ (by omega) (by omega) hm hmm (fun a ha => by have := hat a ha; omega) ⟨h0, h2⟩ hn last 0 (by omega) ⟨i, by omega, q1, q2, q3, q4, q5⟩
      rw [hw]
      by_cases c2 : p + 64 ≤ 100000
      · exact ih (p + 64) (by omega) (by omega) c2 (by omega)
      · omega
    · exact Ev.neg c (Ev.some rfl)
theorem low_j1 (ms : List S34) (size : Int) (hlen : ms.length ≤ 8) (hms : ∀ y ∈ ms, 1 ≤ y.f0 ∧ y.f0 ≤ 256 ∧ 0 ≤ y.f1 ∧ y.f1 ≤ 1984 ∧ y.f1 % 64 = 0) : Ev (fun k => flyleaflaw13_PlaceLow.j1 k size true ms) true := by
  refine Ev.succ ?_
  simp only [flyleaflaw13_PlaceLow.j1]
  refine Ev.pos (by omega) ?_
  have hsz : wrap64 (1 + Go.bits .and .i64 size 255) = 1 + size % 256 := by rw [i64_and255]; unfold wrap64; omega
  rw [hsz]
  refine Ev.pure rfl ?_
  generalize hx : (⟨1 + size % 256, 0⟩ : S34) = x
  have hx0 : x.f0 = 1 + size % 256 := by rw [← hx]
  have hx1 : x.f1 = 0 := by rw [← hx]
  have hfull : ∀ y ∈ ms ++ [x], 1 ≤ y.f0 ∧ y.f0 ≤ 256 ∧ 0 ≤ y.f1 ∧ y.f1 ≤ 1984 ∧ y.f1 % 64 = 0 := by
    intro y hy
    rcases List.mem_append.1 hy with hy | hy
    · exact hms y hy
    · simp at hy; subst hy; omega
  obtain ⟨r, hr⟩ := go_some hfull (ms ++ [x]) [] [] rfl rfl (by simp; omega) (fun a h => by cases h) (fun z h => by cases h)
  have hroom : roomT 0 65536 = true := by decide
  obtain ⟨ps, e1, e2, e3⟩ := go_spec hroom (by omega) (fun y hy => by have := hfull y hy; omega) (ms ++ [x]) [] [] r rfl rfl (fun a h => by cases h) hr
  simp only [List.nil_append] at e1
  subst e1
  have hokall : (ms ++ [x]).all okW = true := by
    rw [List.all_eq_true]
    intro y hy
    have := hfull y hy
    exact decide_eq_true (by omega)
  have hallT : allT (ms ++ [x]) 0 65536 = (r, 0) := by
    unfold allT
    rw [if_pos hroom, if_pos hokall, hr]; rfl
  refine Ev.bind (Ev.eq (all_ev _ 0 65536 (by simp; omega)) hallT) ?_
  have hrl : r.length = ms.length + 1 := by rw [e2]; simp
  refine Ev.pos rfl ?_
  have hlen2 : ((r.length : Int) != ((ms ++ [x]).length : Int)) = false := by rw [bne_eq_false_iff_eq]; simp [hrl]
  show Ev (fun k => flyleaflaw13_PlaceLow.j2 k true (ms ++ [x]) r ((r.length : Int) != ((ms ++ [x]).length : Int))) true
  rw [hlen2]
  refine Ev.succ ?_
  simp only [flyleaflaw13_PlaceLow.j2, if_neg (show ¬ (false = true) by decide)]
  have hlast : wrap64 (((ms ++ [x]).length : Int) - 1) = (ms.length : Int) := by simp; unfold wrap64; omega
  rw [hlast]
  have hml : ms.length < (ms ++ [x]).length := by simp
  refine Ev.pos (by omega) (Ev.pos (by omega) ?_)
  have hgx : (ms ++ [x])[ms.length] = x := by simp
  have hzl : ((ms ++ [x]).zip r).length = ms.length + 1 := by simp [hrl]
  have hget := okZ_get _ [] e3
  have hatr : ∀ a ∈ r, 0 ≤ a ∧ a ≤ 70000 := by
    intro a ha
    obtain ⟨i, hi, rfl⟩ := List.getElem_of_mem ha
    have := hget i (by rw [hzl]; omega)
    obtain ⟨q1, q2, _⟩ := this
    simp only [List.getElem_zip] at q1 q2
    have := rndT_pos ((ms ++ [x])[i]'(by simp; omega)).f0
    omega
  rw [rdT34_eq hml, hgx, round_is (by omega) (by omega)]
  have hn : 0 ≤ rndT x.f0 ∧ rndT x.f0 ≤ 1000 := by rw [rndT_mid (by omega) (by omega)]; omega
  refine low_l1 (ms ++ [x]) r ms.length (rndT x.f0) (by omega) (by simp) (by simp; omega) (fun y hy => by have := hfull y hy; omega) hatr hn ?_ 2000 0 (by omega) (by omega) (by omega) (by have := hatr r[ms.length] (List.getElem_mem (by omega)); omega)
  intro p h0 h1 h2
  have hstep := hget ms.length (by rw [hzl]; omega)
  simp only [List.nil_append, List.getElem_zip] at hstep
  obtain ⟨q1, q2, _, _, _, q6⟩ := hstep
  simp only at q1 q2 q6
  have hlow := q6 (by rw [hgx]; exact hx1) p h0 h1
  rw [hgx] at hlow q2
  by_cases hc : ClearZ (((ms ++ [x]).zip r).take ms.length) p (rndT x.f0)
  · have := hlow (by omega) hc; omega
  · unfold ClearZ at hc
    simp only [Classical.not_forall, Classical.not_not] at hc
    obtain ⟨z, hz, hm⟩ := hc
    obtain ⟨i, hi, rfl⟩ := List.getElem_of_mem hz
    simp only [List.getElem_take, List.getElem_zip, List.length_take] at hm hi
    exact ⟨i, by simp; omega, by omega, by omega, hm.1, hm.2⟩
theorem low_loop (l0 : List S32) (size : Int) (d : Nat) : ∀ i : Nat, min 8 l0.length = i + d → Ev (fun k => flyleaflaw13_PlaceLow.l0 k l0 size true ((l0.take i).map mk) (i : Int)) true := by
  have hmk : ∀ (xs : List S32), ∀ y ∈ xs.map mk, 1 ≤ y.f0 ∧ y.f0 ≤ 256 ∧ 0 ≤ y.f1 ∧ y.f1 ≤ 1984 ∧ y.f1 % 64 = 0 := by
    intro xs y hy
    obtain ⟨x, _, rfl⟩ := List.mem_map.1 hy
    simp only [mk]; omega
  induction d with
  | zero =>
    intro i h
    have hj := low_j1 ((l0.take i).map mk) size (by simp; omega) (hmk _)
    refine Ev.succ ?_
    simp only [flyleaflaw13_PlaceLow.l0]
    by_cases c : (i : Int) < (l0.length : Int)
    · exact Ev.pos c (Ev.neg (by omega) hj)
    · exact Ev.neg c hj
  | succ d ih =>
    intro i h
    have h1 : i < l0.length := by omega
    refine Ev.succ ?_
    simp only [flyleaflaw13_PlaceLow.l0]
    refine Ev.pos (by omega) (Ev.pos (by omega) (Ev.pos (by omega) (Ev.pos (by simp; omega) ?_)))
    have hr : rd_T32 l0 (i : Int) = l0[i] := by simp [rd_T32, h1]
    have e : (⟨wrap64 (1 + Go.bits .and .i64 (rd_T32 l0 (i : Int)).f0 255), wrap64 (64 * Go.bits .and .i64 (rd_T32 l0 (i : Int)).f1 31)⟩ : S34) = mk l0[i] := by
      rw [hr, i64_and255, i64_and31]
      unfold mk
      rw [S34.mk.injEq]
      unfold wrap64
      constructor <;> omega
    rw [e, wrap_nat (by omega)]
    have e2 : (l0.take i).map mk ++ [mk l0[i]] = (l0.take (i + 1)).map mk := by rw [List.take_succ_eq_append_getElem h1, List.map_append]; rfl
    rw [e2]
    exact ih (i + 1) (by omega)
/-- THE PURE STATEMENT. -/
theorem PlaceLow : Pl.PlaceLow.Said := by
  intro l0 size _ _
  refine Ev.rounds ?_
  unfold flyleaflaw13_PlaceLow.f
  refine Ev.bind awake_ev ?_
  exact low_loop l0 size (min 8 l0.length) 0 (by omega)

end Go.Proofs.Ytafmeagfockdfaa.Pure
