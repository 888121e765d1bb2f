/-
  What dynamic.Bytes writes is what dynamic.Read reads: the plain law.
-/
import Derived.Test.YtafmeagfockdfaaFlRead
import Derived.Test.YtafmeagfockdfaaFlByt
namespace Go.Proofs.Ytafmeagfockdfaa.Fl
open Go.Proofs.Ytafmeagfockdfaa.Evs Go.RowKit Go.Proofs.YtafmeagfockdfaaW.PrintWords
set_option linter.unusedVariables false
set_option linter.unusedSimpArgs false

theorem ba_len (s : ByteArray) : s.data.toList.length = s.size := by rw [Array.length_toList]; rfl
theorem getT_at {s : ByteArray} {p : Nat} {m : Nat} {rest : List UInt8} (h : s.data.toList.drop p = le m 8 ++ rest) (hm : m < 18446744073709551616) : getT s (p : Int) 8 = ((m : Int), true) := by
  have hl := congrArg List.length h
  rw [List.length_drop, List.length_append, le_length] at hl
  have hs : s.data.toList.length = s.size := ba_len s
  have h256 : m < 256 ^ 8 := (by decide : (256 : Nat) ^ 8 = 18446744073709551616) ▸ hm
  unfold getT
  rw [if_pos (by omega)]
  rw [show (p : Int).toNat = p by omega, h, show (8 : Int).toNat = 8 by rfl, List.take_append_of_le_length (by rw [le_length]; exact Nat.le_refl _), List.take_of_length_le (by rw [le_length]; exact Nat.le_refl _), val_le, Nat.mod_eq_of_lt h256]
theorem getT_short {s : ByteArray} {p : Nat} (h : (s.data.toList.drop p).length < 8) : (getT s (p : Int) 8).2 = false := by
  rw [List.length_drop] at h
  have hs : s.data.toList.length = s.size := ba_len s
  unfold getT
  rw [if_neg (by omega)]
/-- Entries that are read one behind the other. -/
def okRun : List (Int × Int) → DS → Option DS
  | [], d => some d
  | e :: E, d => if e.1 = 0 then none else if (rdStep d e.1 e.2).1 = true then okRun E { (rdStep d e.1 e.2).2 with seen := e.1 :: (rdStep d e.1 e.2).2.seen } else none
def u64' (n : Int) : Prop := 0 ≤ n ∧ n < 18446744073709551616
def flatE (E : List (Int × Int)) : List UInt8 := E.flatMap fun e => ent e.1 e.2
theorem drop_more {s : List UInt8} {p q : Nat} {a b : List UInt8} (h : s.drop p = a ++ b) (hq : a.length = q) : s.drop (p + q) = b := by
  rw [← List.drop_drop, h, List.drop_append_of_le_length (by omega), List.drop_of_length_le (by omega), List.nil_append]
theorem ent_get {s : ByteArray} {i : Nat} {t n : Int} {rest : List UInt8} (ht : u64' t) (hn : u64' n) (h : s.data.toList.drop (16 * i) = ent t n ++ rest) :
    getT s (16 * (i : Int)) 8 = (t, true) ∧ getT s (16 * (i : Int) + 8) 8 = (n, true) ∧ s.data.toList.drop (16 * (i + 1)) = rest := by
  obtain ⟨t1, t2⟩ := ht
  obtain ⟨n1, n2⟩ := hn
  have hmx : mx n 0 = n := by unfold mx; split <;> omega
  have h1 : s.data.toList.drop (16 * i) = le t.toNat 8 ++ (le n.toNat 8 ++ rest) := by rw [h, ent, hmx, List.append_assoc]
  have h2 := drop_more h1 (le_length _ _)
  have g1 := getT_at h1 (by omega)
  have g2 := getT_at h2 (by omega)
  refine ⟨?_, ?_, ?_⟩
  · rw [show (16 * (i : Int)) = ((16 * i : Nat) : Int) by omega, g1]
    congr 1
    omega
  · rw [show (16 * (i : Int) + 8) = ((16 * i + 8 : Nat) : Int) by omega, g2]
    congr 1
    omega
  · have := drop_more h (ent_length t n)
    rw [show 16 * (i + 1) = 16 * i + 16 by omega]
    exact this
theorem run_ok {s : ByteArray} : ∀ (E : List (Int × Int)) (d d' : DS) (i k : Nat) (rest : List UInt8), (∀ e ∈ E, u64' e.1 ∧ u64' e.2) → okRun E d = some d' → s.data.toList.drop (16 * i) = flatE E ++ rest →
    rdL s (k + E.length) i d = rdL s k (i + E.length) d' ∧ s.data.toList.drop (16 * (i + E.length)) = rest := by
  intro E
  induction E with
  | nil =>
    intro d d' i k rest _ h hd
    simp only [okRun, Option.some.injEq] at h
    subst h
    exact ⟨rfl, hd⟩
  | cons e E ih =>
    intro d d' i k rest hu h hd
    obtain ⟨hu1, hu2⟩ := hu e List.mem_cons_self
    rw [show flatE (e :: E) = ent e.1 e.2 ++ flatE E from rfl, List.append_assoc] at hd
    obtain ⟨g1, g2, g3⟩ := ent_get hu1 hu2 hd
    unfold okRun at h
    split at h
    · cases h
    · rename_i h0
      split at h
      · rename_i hst
        obtain ⟨r1, r2⟩ := ih _ _ (i + 1) k rest (fun x hx => hu x (List.mem_cons_of_mem _ hx)) h g3
        rw [show i + (e :: E).length = i + 1 + E.length by simp; omega]
        refine ⟨?_, r2⟩
        rw [← r1, show k + (e :: E).length = (k + E.length) + 1 by simp; omega]
        simp only [rdL, g1, g2]
        rw [if_pos ⟨trivial, trivial⟩, if_neg h0, if_pos hst]
      · cases h
theorem run_end {s : ByteArray} {i k : Nat} {n : Int} {d : DS} {rest : List UInt8} (hn : u64' n) (h : s.data.toList.drop (16 * i) = ent 0 n ++ rest) : rdL s (k + 1) i d = (true, d) := by
  obtain ⟨g1, g2, _⟩ := ent_get (t := 0) ⟨by omega, by omega⟩ hn h
  simp only [rdL, g1, g2]
  rw [if_pos ⟨trivial, trivial⟩, if_pos trivial]
theorem run_cut {s : ByteArray} {i k : Nat} {d : DS} (h : (s.data.toList.drop (16 * i)).length < 16) : rdL s k i d = (false, d) := by
  cases k with
  | zero => rfl
  | succ k =>
    have h2 : (s.data.toList.drop (16 * i + 8)).length < 8 := by rw [List.length_drop] at h ⊢; omega
    have g := getT_short h2
    simp only [rdL]
    rw [if_neg]
    rintro ⟨_, g2⟩
    rw [show (16 * (i : Int) + 8) = ((16 * i + 8 : Nat) : Int) by omega] at g2
    rw [g] at g2
    cases g2
theorem okRun_append : ∀ (E F : List (Int × Int)) (d : DS), okRun (E ++ F) d = (okRun E d).bind (okRun F)
  | [], F, d => rfl
  | e :: E, F, d => by
    simp only [List.cons_append, okRun]
    split
    · rfl
    · split
      · exact okRun_append E F _
      · rfl
theorem run_need : ∀ (l acc fs sn : List Int), (∀ x ∈ l, 0 ≤ x ∧ x ≤ 1099511627776) → acc.length + l.length ≤ 64 → ∃ sn', okRun (l.map fun n => (1, n)) ⟨acc, fs, sn⟩ = some ⟨acc ++ l, fs, sn'⟩ ∧ ∀ t ∈ sn', t = 1 ∨ t ∈ sn
  | [], acc, fs, sn, _, _ => ⟨sn, by simp [okRun], fun t h => .inr h⟩
  | x :: l, acc, fs, sn, hx, hl => by
    obtain ⟨h1, h2⟩ := hx x List.mem_cons_self
    have hl' : acc.length + (l.length + 1) ≤ 64 := by simpa using hl
    have hw : wrap64 x = x := by unfold wrap64; omega
    obtain ⟨sn', h3, h4⟩ := run_need l (acc ++ [x]) fs (1 :: sn) (fun y hy => hx y (List.mem_cons_of_mem _ hy)) (by simp; omega)
    refine ⟨sn', ?_, fun t ht => ?_⟩
    · have hst : rdStep ⟨acc, fs, sn⟩ 1 x = (true, ⟨acc ++ [x], fs, sn⟩) := by
        unfold rdStep
        rw [if_pos rfl, decide_eq_true h2, decide_eq_true (show ((acc.length : Nat) : Int) < 64 by omega), hw]
        rfl
      simp only [List.map_cons, okRun]
      rw [if_neg (by decide), hst, if_pos rfl, h3]
      simp
    · rcases h4 t ht with h | h
      · exact .inl h
      · rcases List.mem_cons.mp h with h | h
        · exact .inl h
        · exact .inr h
def optL (tag a : Int) : List (Int × Int) := if a > 0 then [(tag, a)] else []
theorem run_opt (d : DS) (tag a : Int) (ix : Nat) (hix : fieldIx tag = some ix) (h0 : tag ≠ 0) (h1 : tag ≠ 1) (h9 : ¬ (tag = 9 ∨ tag = 11)) (hs : tag ∉ d.seen) (ha : 0 ≤ a ∧ a ≤ 1099511627776) (hz : d.fs.set (ix - 1) 0 = d.fs) :
    ∃ sn, okRun (optL tag a) d = some ⟨d.need, d.fs.set (ix - 1) a, sn⟩ ∧ ∀ t ∈ sn, t = tag ∨ t ∈ d.seen := by
  unfold optL
  split
  · have hw : wrap64 a = a := by unfold wrap64; omega
    have hc : d.seen.contains tag = false := by simpa using hs
    have hst : rdStep d tag a = (true, ⟨d.need, d.fs.set (ix - 1) a, d.seen⟩) := by
      unfold rdStep
      rw [if_neg h1, if_neg h9, hix]
      simp only
      rw [decide_eq_true ha.2, hc, hw]
      rfl
    refine ⟨tag :: d.seen, ?_, fun t ht => List.mem_cons.mp ht⟩
    simp only [okRun]
    rw [if_neg h0, hst, if_pos rfl]
  · have : a = 0 := by omega
    subst this
    refine ⟨d.seen, ?_, fun t ht => .inr ht⟩
    rw [hz]
    rfl
theorem run_per (d : DS) (tag : Int) (c : Bool) (h9 : tag = 9 ∨ tag = 11) (hs : tag ∉ d.seen) : ∃ sn, okRun (if c = true then [(tag, 24)] else []) d = some ⟨d.need, d.fs, sn⟩ ∧ ∀ t ∈ sn, t = tag ∨ t ∈ d.seen := by
  cases c with
  | false => exact ⟨d.seen, rfl, fun t ht => .inr ht⟩
  | true =>
    have hc : d.seen.contains tag = false := by simpa using hs
    have hst : rdStep d tag 24 = (true, d) := by
      unfold rdStep
      rw [if_neg (by omega), if_pos h9, hc]
      rfl
    refine ⟨tag :: d.seen, ?_, fun t ht => List.mem_cons.mp ht⟩
    rw [if_pos rfl]
    simp only [okRun]
    rw [if_neg (by omega), hst, if_pos rfl]
/-- All the entries ahead of the last. -/
def entsD (l : List Int) (a1 a2 a3 a4 a5 a6 a7 a8 : Int) : List (Int × Int) :=
  l.map (fun n => (1, n)) ++ (optL 4 a4 ++ (optL 5 a1 ++ (optL 6 a3 ++ (optL 7 a5 ++ (optL 8 a6 ++ (optL 10 a2 ++ (optL 14 a7 ++ (optL 1879047669 a8 ++ ((if decide (a6 > 0) = true then [(9, 24)] else []) ++ (if decide (a3 > 0) = true then [(11, 24)] else []))))))))))
theorem flatE_append (E F : List (Int × Int)) : flatE (E ++ F) = flatE E ++ flatE F := by simp [flatE]
theorem flatE_opt (tag a : Int) : flatE (optL tag a) = optE tag a := by
  unfold optL optE
  split <;> simp [flatE]
theorem flatE_per (tag : Int) (c : Prop) [Decidable c] : flatE (if decide c = true then [(tag, 24)] else []) = if c then ent tag 24 else [] := by
  by_cases h : c <;> simp [h, flatE]
theorem bytesD_ents (l : List Int) (a1 a2 a3 a4 a5 a6 a7 a8 : Int) : bytesD l a1 a2 a3 a4 a5 a6 a7 a8 = flatE (entsD l a1 a2 a3 a4 a5 a6 a7 a8) ++ ent 0 0 := by
  unfold entsD bytesD
  simp only [flatE_append, flatE_opt, flatE_per, List.append_assoc]
  congr 1
  simp [flatE, List.flatMap_map]
def okA (a : Int) : Prop := 0 ≤ a ∧ a ≤ 1099511627776
theorem run_ents (l : List Int) (a1 a2 a3 a4 a5 a6 a7 a8 : Int) (hl : ∀ x ∈ l, okA x) (hn : l.length ≤ 64) (h1 : okA a1) (h2 : okA a2) (h3 : okA a3) (h4 : okA a4) (h5 : okA a5) (h6 : okA a6) (h7 : okA a7) (h8 : okA a8) :
    ∃ sn, okRun (entsD l a1 a2 a3 a4 a5 a6 a7 a8) ds0 = some ⟨l, [a1, a2, a3, a4, a5, a6, a7, a8], sn⟩ := by
  unfold entsD
  obtain ⟨s0, r0, m0⟩ := run_need l [] [0, 0, 0, 0, 0, 0, 0, 0] [] hl (by simpa using hn)
  have n0 : ∀ t ∈ s0, t = 1 := fun t ht => by rcases m0 t ht with h | h; exact h; cases h
  rw [okRun_append, show ds0 = ⟨[], [0, 0, 0, 0, 0, 0, 0, 0], []⟩ from rfl, r0, List.nil_append, Option.bind_some]
  obtain ⟨s1, r1, m1⟩ := run_opt ⟨l, [0, 0, 0, 0, 0, 0, 0, 0], s0⟩ 4 a4 4 rfl (by decide) (by decide) (by decide) (fun h => absurd (n0 _ h) (by decide)) h4 rfl
  rw [okRun_append, r1, Option.bind_some]
  obtain ⟨s2, r2, m2⟩ := run_opt ⟨l, [0, 0, 0, a4, 0, 0, 0, 0], s1⟩ 5 a1 1 rfl (by decide) (by decide) (by decide) (fun h => by rcases m1 _ h with h | h; exact absurd h (by decide); exact absurd (n0 _ h) (by decide)) h1 rfl
  rw [okRun_append, show (⟨l, [0, 0, 0, 0, 0, 0, 0, 0].set (4 - 1) a4, s1⟩ : DS) = ⟨l, [0, 0, 0, a4, 0, 0, 0, 0], s1⟩ from rfl, r2, Option.bind_some]
  have n2 : ∀ t ∈ s2, t = 5 ∨ t = 4 ∨ t = 1 := fun t ht => by
    rcases m2 t ht with h | h
    · exact .inl h
    · rcases m1 t h with h | h
      · exact .inr (.inl h)
      · exact .inr (.inr (n0 t h))
  obtain ⟨s3, r3, m3⟩ := run_opt ⟨l, [a1, 0, 0, a4, 0, 0, 0, 0], s2⟩ 6 a3 3 rfl (by decide) (by decide) (by decide) (fun h => by rcases n2 _ h with h | h | h <;> exact absurd h (by decide)) h3 rfl
  rw [okRun_append, show (⟨l, [0, 0, 0, a4, 0, 0, 0, 0].set (1 - 1) a1, s2⟩ : DS) = ⟨l, [a1, 0, 0, a4, 0, 0, 0, 0], s2⟩ from rfl, r3, Option.bind_some]
  have n3 : ∀ t ∈ s3, t ≤ 6 := fun t ht => by
    rcases m3 t ht with h | h
    · omega
    · rcases n2 t h with h | h | h <;> omega
  obtain ⟨s4, r4, m4⟩ := run_opt ⟨l, [a1, 0, a3, a4, 0, 0, 0, 0], s3⟩ 7 a5 5 rfl (by decide) (by decide) (by decide) (fun h => absurd (n3 _ h) (by decide)) h5 rfl
  rw [okRun_append, show (⟨l, [a1, 0, 0, a4, 0, 0, 0, 0].set (3 - 1) a3, s3⟩ : DS) = ⟨l, [a1, 0, a3, a4, 0, 0, 0, 0], s3⟩ from rfl, r4, Option.bind_some]
  have n4 : ∀ t ∈ s4, t ≤ 7 := fun t ht => by
    rcases m4 t ht with h | h
    · omega
    · have := n3 t h; omega
  obtain ⟨s5, r5, m5⟩ := run_opt ⟨l, [a1, 0, a3, a4, a5, 0, 0, 0], s4⟩ 8 a6 6 rfl (by decide) (by decide) (by decide) (fun h => absurd (n4 _ h) (by decide)) h6 rfl
  rw [okRun_append, show (⟨l, [a1, 0, a3, a4, 0, 0, 0, 0].set (5 - 1) a5, s4⟩ : DS) = ⟨l, [a1, 0, a3, a4, a5, 0, 0, 0], s4⟩ from rfl, r5, Option.bind_some]
  have n5 : ∀ t ∈ s5, t ≤ 8 := fun t ht => by
    rcases m5 t ht with h | h
    · omega
    · have := n4 t h; omega
  obtain ⟨s6, r6, m6⟩ := run_opt ⟨l, [a1, 0, a3, a4, a5, a6, 0, 0], s5⟩ 10 a2 2 rfl (by decide) (by decide) (by decide) (fun h => absurd (n5 _ h) (by decide)) h2 rfl
  rw [okRun_append, show (⟨l, [a1, 0, a3, a4, a5, 0, 0, 0].set (6 - 1) a6, s5⟩ : DS) = ⟨l, [a1, 0, a3, a4, a5, a6, 0, 0], s5⟩ from rfl, r6, Option.bind_some]
  have n6 : ∀ t ∈ s6, t ≤ 8 ∨ t = 10 := fun t ht => by
    rcases m6 t ht with h | h
    · exact .inr h
    · exact .inl (n5 t h)
  obtain ⟨s7, r7, m7⟩ := run_opt ⟨l, [a1, a2, a3, a4, a5, a6, 0, 0], s6⟩ 14 a7 7 rfl (by decide) (by decide) (by decide) (fun h => by rcases n6 _ h with h | h <;> exact absurd h (by decide)) h7 rfl
  rw [okRun_append, show (⟨l, [a1, 0, a3, a4, a5, a6, 0, 0].set (2 - 1) a2, s6⟩ : DS) = ⟨l, [a1, a2, a3, a4, a5, a6, 0, 0], s6⟩ from rfl, r7, Option.bind_some]
  have n7 : ∀ t ∈ s7, t ≤ 8 ∨ t = 10 ∨ t = 14 := fun t ht => by
    rcases m7 t ht with h | h
    · exact .inr (.inr h)
    · rcases n6 t h with h | h
      · exact .inl h
      · exact .inr (.inl h)
  obtain ⟨s8, r8, m8⟩ := run_opt ⟨l, [a1, a2, a3, a4, a5, a6, a7, 0], s7⟩ 1879047669 a8 8 rfl (by decide) (by decide) (by decide) (fun h => by rcases n7 _ h with h | h | h <;> exact absurd h (by decide)) h8 rfl
  rw [okRun_append, show (⟨l, [a1, a2, a3, a4, a5, a6, 0, 0].set (7 - 1) a7, s7⟩ : DS) = ⟨l, [a1, a2, a3, a4, a5, a6, a7, 0], s7⟩ from rfl, r8, Option.bind_some]
  have n8 : ∀ t ∈ s8, t ≤ 8 ∨ t = 10 ∨ t = 14 ∨ t = 1879047669 := fun t ht => by
    rcases m8 t ht with h | h
    · exact .inr (.inr (.inr h))
    · rcases n7 t h with h | h | h
      · exact .inl h
      · exact .inr (.inl h)
      · exact .inr (.inr (.inl h))
  obtain ⟨s9, r9, m9⟩ := run_per ⟨l, [a1, a2, a3, a4, a5, a6, a7, a8], s8⟩ 9 (decide (a6 > 0)) (.inl rfl) (fun h => by rcases n8 _ h with h | h | h | h <;> exact absurd h (by decide))
  rw [okRun_append, show (⟨l, [a1, a2, a3, a4, a5, a6, a7, 0].set (8 - 1) a8, s8⟩ : DS) = ⟨l, [a1, a2, a3, a4, a5, a6, a7, a8], s8⟩ from rfl, r9, Option.bind_some]
  obtain ⟨s10, r10, m10⟩ := run_per ⟨l, [a1, a2, a3, a4, a5, a6, a7, a8], s9⟩ 11 (decide (a3 > 0)) (.inr rfl) (fun h => by rcases m9 _ h with h | h; exact absurd h (by decide); rcases n8 _ h with h | h | h | h <;> exact absurd h (by decide))
  exact ⟨s10, r10⟩
theorem ents_u64 (l : List Int) (a1 a2 a3 a4 a5 a6 a7 a8 : Int) (hl : ∀ x ∈ l, okA x) (h1 : okA a1) (h2 : okA a2) (h3 : okA a3) (h4 : okA a4) (h5 : okA a5) (h6 : okA a6) (h7 : okA a7) (h8 : okA a8) :
    ∀ e ∈ entsD l a1 a2 a3 a4 a5 a6 a7 a8, u64' e.1 ∧ u64' e.2 := by
  have ho : ∀ (tag a : Int), u64' tag → okA a → ∀ e ∈ optL tag a, u64' e.1 ∧ u64' e.2 := fun tag a ht ha e he => by
    unfold optL at he
    split at he
    · rw [List.mem_singleton] at he
      subst he
      exact ⟨ht, by unfold okA at ha; constructor <;> simp only <;> omega⟩
    · cases he
  have hp : ∀ (tag : Int) (c : Bool), u64' tag → ∀ e ∈ (if c = true then [(tag, (24 : Int))] else []), u64' e.1 ∧ u64' e.2 := fun tag c ht e he => by
    cases c with
    | false => cases he
    | true =>
      rw [if_pos rfl, List.mem_singleton] at he
      subst he
      exact ⟨ht, by unfold u64'; simp only; omega⟩
  intro e he
  unfold entsD at he
  simp only [List.mem_append] at he
  rcases he with he | he | he | he | he | he | he | he | he | he | he
  · obtain ⟨x, hx, rfl⟩ := List.mem_map.mp he
    have := hl x hx
    unfold okA at this
    exact ⟨by constructor <;> simp only <;> omega, by constructor <;> simp only <;> omega⟩
  · exact ho _ _ (by constructor <;> decide) h4 e he
  · exact ho _ _ (by constructor <;> decide) h1 e he
  · exact ho _ _ (by constructor <;> decide) h3 e he
  · exact ho _ _ (by constructor <;> decide) h5 e he
  · exact ho _ _ (by constructor <;> decide) h6 e he
  · exact ho _ _ (by constructor <;> decide) h2 e he
  · exact ho _ _ (by constructor <;> decide) h7 e he
  · exact ho _ _ (by constructor <;> decide) h8 e he
  · exact hp _ _ (by constructor <;> decide) e he
  · exact hp _ _ (by constructor <;> decide) e he
theorem flatE_length (E : List (Int × Int)) : (flatE E).length = 16 * E.length := by
  induction E with
  | nil => rfl
  | cons e E ih => rw [show flatE (e :: E) = ent e.1 e.2 ++ flatE E from rfl, List.length_append, ent_length, ih, List.length_cons]; omega
/-- WHAT IS WRITTEN IS READ. -/
theorem read_back (l : List Int) (a1 a2 a3 a4 a5 a6 a7 a8 : Int) (rest : List UInt8) (s : ByteArray) (hs : s.data.toList = bytesD l a1 a2 a3 a4 a5 a6 a7 a8 ++ rest) (hl : ∀ x ∈ l, okA x) (hn : l.length ≤ 64) (h1 : okA a1) (h2 : okA a2) (h3 : okA a3) (h4 : okA a4) (h5 : okA a5) (h6 : okA a6) (h7 : okA a7) (h8 : okA a8) (h24 : a6.tmod 24 = 0) :
    rdOut s = (l, [a1, a2, a3, a4, a5, a6, a7, a8], 0) := by
  obtain ⟨sn, hr⟩ := run_ents l a1 a2 a3 a4 a5 a6 a7 a8 hl hn h1 h2 h3 h4 h5 h6 h7 h8
  have hd : s.data.toList.drop (16 * 0) = flatE (entsD l a1 a2 a3 a4 a5 a6 a7 a8) ++ (ent 0 0 ++ rest) := by
    rw [Nat.mul_zero, List.drop_zero, hs, bytesD_ents, List.append_assoc]
  have hsz : s.size = s.data.toList.length := (ba_len s).symm
  have hlen := congrArg List.length hd
  rw [Nat.mul_zero, List.drop_zero, List.length_append, List.length_append, flatE_length, ent_length] at hlen
  obtain ⟨k, hk⟩ : ∃ k, s.size / 16 + 1 = (k + 1) + (entsD l a1 a2 a3 a4 a5 a6 a7 a8).length := ⟨s.size / 16 - (entsD l a1 a2 a3 a4 a5 a6 a7 a8).length, by omega⟩
  obtain ⟨e1, e2⟩ := run_ok (s := s) _ _ _ 0 (k + 1) _ (ents_u64 l a1 a2 a3 a4 a5 a6 a7 a8 hl h1 h2 h3 h4 h5 h6 h7 h8) hr hd
  have hall : rdAll s = (true, ⟨l, [a1, a2, a3, a4, a5, a6, a7, a8], sn⟩) := by
    unfold rdAll
    rw [hk, e1]
    exact run_end (n := 0) (by constructor <;> decide) e2
  unfold rdOut
  rw [hall]
  exact if_pos ⟨rfl, h24⟩
/-- WHAT IS CUT SHORT IS NONE. -/
theorem read_cut (l : List Int) (a1 a2 a3 a4 a5 a6 a7 a8 : Int) (s : ByteArray) (hs : s.data.toList = (bytesD l a1 a2 a3 a4 a5 a6 a7 a8).take ((bytesD l a1 a2 a3 a4 a5 a6 a7 a8).length - 1)) (hl : ∀ x ∈ l, okA x) (hn : l.length ≤ 64) (h1 : okA a1) (h2 : okA a2) (h3 : okA a3) (h4 : okA a4) (h5 : okA a5) (h6 : okA a6) (h7 : okA a7) (h8 : okA a8) :
    rdOut s = ([], [0, 0, 0, 0, 0, 0, 0, 0], 17) := by
  obtain ⟨sn, hr⟩ := run_ents l a1 a2 a3 a4 a5 a6 a7 a8 hl hn h1 h2 h3 h4 h5 h6 h7 h8
  have hd : s.data.toList.drop (16 * 0) = flatE (entsD l a1 a2 a3 a4 a5 a6 a7 a8) ++ (ent 0 0).take 15 := by
    rw [Nat.mul_zero, List.drop_zero, hs, bytesD_ents, List.take_append, List.length_append, ent_length, List.take_of_length_le (by omega), show (flatE (entsD l a1 a2 a3 a4 a5 a6 a7 a8)).length + 16 - 1 - (flatE (entsD l a1 a2 a3 a4 a5 a6 a7 a8)).length = 15 by omega]
  have h15 : ((ent 0 0).take 15).length = 15 := by rw [List.length_take, ent_length]; rfl
  have hsz : s.size = s.data.toList.length := (ba_len s).symm
  have hlen := congrArg List.length hd
  rw [Nat.mul_zero, List.drop_zero, List.length_append, flatE_length, h15] at hlen
  obtain ⟨k, hk⟩ : ∃ k, s.size / 16 + 1 = k + (entsD l a1 a2 a3 a4 a5 a6 a7 a8).length := ⟨s.size / 16 + 1 - (entsD l a1 a2 a3 a4 a5 a6 a7 a8).length, by omega⟩
  obtain ⟨e1, e2⟩ := run_ok (s := s) _ _ _ 0 k _ (ents_u64 l a1 a2 a3 a4 a5 a6 a7 a8 hl h1 h2 h3 h4 h5 h6 h7 h8) hr hd
  have hall : (rdAll s).1 = false := by
    unfold rdAll
    rw [hk, e1, run_cut (by rw [e2, h15]; decide)]
  unfold rdOut
  exact if_neg (by rw [hall]; rintro ⟨h, _⟩; cases h)
end Go.Proofs.Ytafmeagfockdfaa.Fl
