/-
  PlaceApart, over numbers and lists: no two that are placed meet, all are in the room at whole pages, and one that likes a free place gets it.
-/
import Derived.Test.YtafmeagfockdfaaOpPlaceApart
import Derived.Test.YtafmeagfockdfaaPlSame
import Derived.Test.YtafmeagfockdfaaPlGo
import Derived.Test.YtafmeagfockdfaaMask
namespace Go.Proofs.Ytafmeagfockdfaa.Pure
open Go.RowKit Go.Proofs.Ytafmeagfockdfaa.Pl Go.Proofs.YtafmeagfockdfaaW.PrintWords Go.Proofs.YtafmeagfockdfaaW.PrintMore

namespace Apart
def mk (x : S32) : S34 := ⟨1 + x.f0 % 512, 64 * (x.f1 % 256)⟩
theorem round_is {a : Int} (h0 : 1 ≤ a) (h1 : a ≤ 512) : wrap64 (wrap64 (Int.tdiv (wrap64 (a + 63)) 64) * 64) = rndT a := by
  rw [rndT_mid (by omega) (by omega)]
  have e1 : wrap64 (a + 63) = a + 63 := by unfold wrap64; omega
  have e2 : Int.tdiv (a + 63) 64 = (a + 63) / 64 := Int.tdiv_eq_ediv_of_nonneg (by omega)
  rw [e1, e2]
  unfold wrap64; omega
/-- What the statement asks of the one at place i. -/
structure Fine (m : List S34) (at_ : List Int) (low high : Int) (i : Nat) (h1 : i < m.length) (h2 : i < at_.length) : Prop where
  lo : low ≤ at_[i]
  hi : at_[i] + rndT m[i].f0 ≤ high
  md : at_[i] % 64 = 0
  ap : ∀ (k : Nat) (h : k < i), ¬ (at_[i] < at_[k] + rndT m[k].f0 ∧ at_[k] < at_[i] + rndT m[i].f0)
  lk : m[i].f1 ≠ 0 → low ≤ m[i].f1 → m[i].f1 + rndT m[i].f0 ≤ high → (∀ (k : Nat) (h : k < i), m[i].f1 ≥ at_[k] + rndT m[k].f0 ∨ at_[k] ≥ m[i].f1 + rndT m[i].f0) → at_[i] = m[i].f1
end Apart
open Apart
section
variable {m : List S34} {at_ : List Int} {low high : Int} (hlen : at_.length = m.length) (h12 : m.length ≤ 12)
  (hm : ∀ y ∈ m, 1 ≤ y.f0 ∧ y.f0 ≤ 512 ∧ 0 ≤ y.f1 ∧ y.f1 ≤ 20000 ∧ y.f1 % 64 = 0) (hat : ∀ a ∈ at_, 0 ≤ a ∧ a ≤ 100000)
include hlen h12 hm hat
/-- The inner loop: the flag says whether the place that is liked is free of those from j on, and of those before. -/
theorem apart_l2 (i : Nat) (h1 : i < m.length) (h2 : i < at_.length) (F : Fine m at_ low high i h1 h2) (r : Bool) (hl1 : Ev (fun k => flyleaflaw13_PlaceApart.l1 k true m low high at_ (wrap64 ((i : Int) + 1))) r) (d : Nat) :
    ∀ (j : Nat) (likes : Bool) (_hj : i = j + d), (likes = true → m[i].f1 ≠ 0 ∧ low ≤ m[i].f1 ∧ m[i].f1 + rndT m[i].f0 ≤ high ∧ ∀ (k : Nat) (h : k < j), m[i].f1 ≥ at_[k]'(by omega) + rndT (m[k]'(by omega)).f0 ∨ at_[k]'(by omega) ≥ m[i].f1 + rndT m[i].f0) →
    Ev (fun k => flyleaflaw13_PlaceApart.l2 k true m low high at_ (i : Int) (rndT m[i].f0) likes (j : Int)) r := by
  have hmi := hm m[i] (List.getElem_mem h1)
  have hai := hat at_[i] (List.getElem_mem h2)
  have hri := rndT_pos m[i].f0
  have hri2 : rndT m[i].f0 ≤ 512 := by rw [rndT_mid (by omega) (by omega)]; omega
  induction d with
  | zero =>
    intro j likes h hlk
    refine Ev.succ ?_
    simp only [flyleaflaw13_PlaceApart.l2]
    refine Ev.neg (by omega) ?_
    cases likes with
    | false => simp only [if_neg (show ¬ (false = true) by decide)]; exact hl1
    | true =>
      simp only [if_true]
      refine Ev.pos (by omega) (Ev.pos (by omega) (Ev.pos (by omega) ?_))
      rw [rd_eq h2, rdT34_eq h1]
      obtain ⟨l1, l2, l3, l4⟩ := hlk rfl
      exact Ev.pos (F.lk l1 l2 l3 (fun k hk => l4 k (by omega))) hl1
  | succ d ih =>
    intro j likes h hlk
    have j1 : j < m.length := by omega
    have j2 : j < at_.length := by omega
    have hmj := hm m[j] (List.getElem_mem j1)
    have haj := hat at_[j] (List.getElem_mem j2)
    have hrj := rndT_pos m[j].f0
    have hrj2 : rndT m[j].f0 ≤ 512 := by rw [rndT_mid (by omega) (by omega)]; omega
    have hap := F.ap j (by omega)
    refine Ev.succ ?_
    simp only [flyleaflaw13_PlaceApart.l2]
    refine Ev.pos (by omega) (Ev.pos (by omega) (Ev.pos (by omega) (Ev.pos (by omega) (Ev.pos (by omega) (Ev.pos (by omega) ?_)))))
    rw [rd_eq h2, rd_eq j2, rdT34_eq h1, rdT34_eq j1, round_is hmj.1 (by omega), wrap_nat (i := j) (by omega)]
    have w1 : wrap64 (at_[j] + rndT m[j].f0) = at_[j] + rndT m[j].f0 := by unfold wrap64; omega
    have w2 : wrap64 (at_[i] + rndT m[i].f0) = at_[i] + rndT m[i].f0 := by unfold wrap64; omega
    have w3 : wrap64 (m[i].f1 + rndT m[i].f0) = m[i].f1 + rndT m[i].f0 := by unfold wrap64; omega
    rw [w1, w2, w3]
    have hrest : Ev (fun k => if likes = true then (if (i : Int) < (m.length : Int) then (if m[i].f1 ≥ at_[j] + rndT m[j].f0 then flyleaflaw13_PlaceApart.l2 k true m low high at_ (i : Int) (rndT m[i].f0) true ((j + 1 : Nat) : Int) else flyleaflaw13_PlaceApart.l2 k true m low high at_ (i : Int) (rndT m[i].f0) (decide (at_[j] ≥ m[i].f1 + rndT m[i].f0)) ((j + 1 : Nat) : Int)) else none) else flyleaflaw13_PlaceApart.l2 k true m low high at_ (i : Int) (rndT m[i].f0) false ((j + 1 : Nat) : Int)) r := by
      cases likes with
      | false =>
        simp only [if_neg (show ¬ (false = true) by decide)]
        exact ih (j + 1) false (by omega) (fun h => by cases h)
      | true =>
        simp only [if_true]
        obtain ⟨l1, l2, l3, l4⟩ := hlk rfl
        have more : (m[i].f1 ≥ at_[j] + rndT m[j].f0 ∨ at_[j] ≥ m[i].f1 + rndT m[i].f0) → ∀ (k : Nat) (h : k < j + 1), m[i].f1 ≥ at_[k]'(by omega) + rndT (m[k]'(by omega)).f0 ∨ at_[k]'(by omega) ≥ m[i].f1 + rndT m[i].f0 := by
          intro hj k hk
          by_cases e : k = j
          · subst e; exact hj
          · exact l4 k (by omega)
        refine Ev.pos (by omega) ?_
        by_cases c : m[i].f1 ≥ at_[j] + rndT m[j].f0
        · exact Ev.pos c (ih (j + 1) true (by omega) (fun _ => ⟨l1, l2, l3, more (.inl c)⟩))
        · refine Ev.neg c ?_
          exact ih (j + 1) _ (by omega) (fun hd => ⟨l1, l2, l3, more (.inr (of_decide_eq_true hd))⟩)
    by_cases c : at_[i] < at_[j] + rndT m[j].f0
    · exact Ev.pos c (Ev.neg (fun h => hap ⟨c, h⟩) hrest)
    · exact Ev.neg c hrest
theorem apart_l1 (_hlow : 0 ≤ low) (hhigh : high ≤ 100000) (hF : ∀ (i : Nat) (h1 : i < m.length) (h2 : i < at_.length), Fine m at_ low high i h1 h2) (d : Nat) : ∀ i : Nat, at_.length = i + d →
    Ev (fun k => flyleaflaw13_PlaceApart.l1 k true m low high at_ (i : Int)) true := by
  induction d with
  | zero =>
    intro i h
    refine Ev.succ ?_
    simp only [flyleaflaw13_PlaceApart.l1]
    exact Ev.neg (by omega) (Ev.some rfl)
  | succ d ih =>
    intro i h
    have h1 : i < m.length := by omega
    have h2 : i < at_.length := by omega
    have F := hF i h1 h2
    have hmi := hm m[i] (List.getElem_mem h1)
    have hai := hat at_[i] (List.getElem_mem h2)
    have hri := rndT_pos m[i].f0
    have hri2 : rndT m[i].f0 ≤ 512 := by rw [rndT_mid (by omega) (by omega)]; omega
    have f1 := F.lo
    have f2 := F.hi
    have f3 := F.md
    have hnext : Ev (fun k => flyleaflaw13_PlaceApart.l1 k true m low high at_ (wrap64 ((i : Int) + 1))) true := by rw [wrap_nat (by omega)]; exact ih (i + 1) (by omega)
    have hl2 := fun likes => apart_l2 hlen h12 hm hat i h1 h2 F true hnext i 0 likes (by omega)
    refine Ev.succ ?_
    simp only [flyleaflaw13_PlaceApart.l1]
    refine Ev.pos (by omega) (Ev.pos (by omega) (Ev.pos (by omega) ?_))
    rw [rd_eq h2, rdT34_eq h1, round_is hmi.1 (by omega)]
    have w2 : wrap64 (at_[i] + rndT m[i].f0) = at_[i] + rndT m[i].f0 := by unfold wrap64; omega
    have w3 : wrap64 (m[i].f1 + rndT m[i].f0) = m[i].f1 + rndT m[i].f0 := by unfold wrap64; omega
    rw [w2, tmod_nonneg hai.1]
    refine Ev.pos f3 (Ev.neg (by omega) ?_)
    rw [decide_eq_false (by omega)]
    refine Ev.succ ?_
    simp only [flyleaflaw13_PlaceApart.j3, if_neg (show ¬ (false = true) by decide)]
    refine Ev.pos (by omega) (Ev.pos (by omega) ?_)
    rw [rdT34_eq h1, w3]
    have hj4 : ∀ likes : Bool, (likes = true → m[i].f1 ≠ 0 ∧ low ≤ m[i].f1 ∧ m[i].f1 + rndT m[i].f0 ≤ high) → Ev (fun k => flyleaflaw13_PlaceApart.j4 k true m low high at_ (i : Int) (rndT m[i].f0) likes) true := by
      intro likes hk
      refine Ev.succ ?_
      simp only [flyleaflaw13_PlaceApart.j4]
      exact hl2 likes (fun h => ⟨(hk h).1, (hk h).2.1, (hk h).2.2, fun k hk => by omega⟩)
    by_cases c1 : m[i].f1 = 0
    · exact Ev.pos c1 (hj4 false (fun h => by cases h))
    · refine Ev.neg c1 ?_
      by_cases c2 : m[i].f1 ≥ low
      · exact Ev.pos c2 (hj4 _ (fun h => ⟨c1, c2, of_decide_eq_true h⟩))
      · exact Ev.neg c2 (hj4 false (fun h => by cases h))
end
theorem apart_j1 (m : List S34) (q0 q1 : Int) (h12 : m.length ≤ 12) (hm : ∀ y ∈ m, 1 ≤ y.f0 ∧ y.f0 ≤ 512 ∧ 0 ≤ y.f1 ∧ y.f1 ≤ 20000 ∧ y.f1 % 64 = 0) : Ev (fun k => flyleaflaw13_PlaceApart.j1 k true m q0 q1) true := by
  refine Ev.succ ?_
  simp only [flyleaflaw13_PlaceApart.j1]
  have hlo : wrap64 (64 * Go.bits .and .i64 q0 63) = 64 * (q0 % 64) := by rw [i64_and63]; unfold wrap64; omega
  have hhi : wrap64 (64 * (q0 % 64) + wrap64 (64 * Go.bits .and .i64 q1 127)) = 64 * (q0 % 64) + 64 * (q1 % 128) := by rw [i64_and127]; unfold wrap64; omega
  rw [hlo, hhi]
  generalize hle : 64 * (q0 % 64) = low
  generalize hhe : low + 64 * (q1 % 128) = high
  have hroom : roomT low high = true := decide_eq_true (by omega)
  have hok : m.all okW = true := by
    rw [List.all_eq_true]
    intro y hy
    have := hm y hy
    exact decide_eq_true (by omega)
  have hall := all_ev m low high (by omega)
  cases hg : goT m low high m [] with
  | none =>
    have e : allT m low high = ([], 18) := by unfold allT; rw [if_pos hroom, if_pos hok, hg]; rfl
    rw [e] at hall
    refine Ev.bind hall (Ev.neg (by omega) ?_)
    simp only [if_true]
    refine Ev.pos rfl ?_
    have hne : 0 < m.length := by
      cases m with
      | nil => simp [goT] at hg
      | cons x xs => simp
    exact Ev.some (decide_eq_true (by omega))
  | some r =>
    have e : allT m low high = (r, 0) := by unfold allT; rw [if_pos hroom, if_pos hok, hg]; rfl
    rw [e] at hall
    obtain ⟨ps, e1, e2, e3⟩ := go_spec hroom (by omega) (fun y hy => by have := hm y hy; omega) m [] [] r rfl rfl (fun a h => by cases h) hg
    simp only [List.nil_append] at e1
    subst e1
    refine Ev.bind hall (Ev.pos rfl (Ev.pos (congrArg Int.ofNat e2) ?_))
    have hget := okZ_get _ [] e3
    have hzl : (m.zip r).length = m.length := by simp [e2]
    have hatr : ∀ a ∈ r, 0 ≤ a ∧ a ≤ 100000 := by
      intro a ha
      obtain ⟨i, hi, rfl⟩ := List.getElem_of_mem ha
      obtain ⟨q1, q2, _⟩ := hget i (by rw [hzl, ← e2]; exact hi)
      simp only [List.getElem_zip] at q1 q2
      have := rndT_pos (m[i]'(by omega)).f0
      omega
    refine apart_l1 e2 h12 hm hatr (by omega) (by omega) (fun i h1 h2 => ?_) r.length 0 (by omega)
    have hs := hget i (by rw [hzl]; omega)
    simp only [List.nil_append, List.getElem_zip] at hs
    obtain ⟨s1, s2, s3, s4, s5, _⟩ := hs
    simp only at s1 s2 s3 s4 s5
    have hmi := hm m[i] (List.getElem_mem h1)
    have hin : ∀ (k : Nat) (h : k < i), (m[k]'(by omega), r[k]'(by omega)) ∈ (m.zip r).take i := by
      intro k hk
      have : ((m.zip r).take i)[k]'(by simp [hzl]; omega) = (m[k]'(by omega), r[k]'(by omega)) := by simp
      rw [← this]
      exact List.getElem_mem _
    refine ⟨s1, s2, s3, fun k hk hh => s4 _ (hin k hk) ⟨hh.2, hh.1⟩, fun l1 l2 l3 l4 => s5 l1 hmi.2.2.2.2 l2 l3 ?_⟩
    intro z hz hmeet
    obtain ⟨k, hk, rfl⟩ := List.getElem_of_mem hz
    simp only [List.getElem_take, List.getElem_zip, List.length_take] at hmeet hk
    have := l4 k (by omega)
    omega
theorem apart_loop (l0 : List S32) (q0 q1 : Int) (d : Nat) : ∀ i : Nat, min 12 l0.length = i + d → Ev (fun k => flyleaflaw13_PlaceApart.l0 k l0 true ((l0.take i).map mk) (i : Int) q0 q1) true := by
  have hmk : ∀ (xs : List S32), ∀ y ∈ xs.map mk, 1 ≤ y.f0 ∧ y.f0 ≤ 512 ∧ 0 ≤ y.f1 ∧ y.f1 ≤ 20000 ∧ y.f1 % 64 = 0 := by
    intro xs y hy
    obtain ⟨x, _, rfl⟩ := List.mem_map.1 hy
    simp only [mk]; omega
  induction d with
  | zero =>
    intro i h
    have hj := apart_j1 ((l0.take i).map mk) q0 q1 (by simp; omega) (hmk _)
    refine Ev.succ ?_
    simp only [flyleaflaw13_PlaceApart.l0]
    by_cases c : (i : Int) < (l0.length : Int)
    · exact Ev.pos c (Ev.neg (by omega) hj)
    · exact Ev.neg c hj
  | succ d ih =>
    intro i h
    have h1 : i < l0.length := by omega
    refine Ev.succ ?_
    simp only [flyleaflaw13_PlaceApart.l0]
    refine Ev.pos (by omega) (Ev.pos (by omega) (Ev.pos (by omega) (Ev.pos (by simp; omega) ?_)))
    have hr : rd_T32 l0 (i : Int) = l0[i] := by simp [rd_T32, h1]
    have e : (⟨wrap64 (1 + Go.bits .and .i64 (rd_T32 l0 (i : Int)).f0 511), wrap64 (64 * Go.bits .and .i64 (rd_T32 l0 (i : Int)).f1 255)⟩ : S34) = mk l0[i] := by
      rw [hr, i64_and511, i64_and255]
      unfold mk
      rw [S34.mk.injEq]
      unfold wrap64
      constructor <;> omega
    rw [e, wrap_nat (by omega)]
    have e2 : (l0.take i).map mk ++ [mk l0[i]] = (l0.take (i + 1)).map mk := by rw [List.take_succ_eq_append_getElem h1, List.map_append]; rfl
    rw [e2]
    exact ih (i + 1) (by omega)
/-- THE PURE STATEMENT. -/
theorem PlaceApart : Pl.PlaceApart.Said := by
  intro l0 q _ _
  refine Ev.rounds ?_
  unfold flyleaflaw13_PlaceApart.f
  refine Ev.bind awake_ev ?_
  exact apart_loop l0 q.f0 q.f1 (min 12 l0.length) 0 (by omega)

end Go.Proofs.Ytafmeagfockdfaa.Pure
