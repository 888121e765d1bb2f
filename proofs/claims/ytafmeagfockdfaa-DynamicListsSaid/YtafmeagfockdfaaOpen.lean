/-
  A value that can be read as data (DataW.trod) holds what its kind says: whole numbers, bools, strings, slices, structs and arrays of these.
-/
import Derived.ProofKit
import Derived.Below
import Derived.Test.YtafmeagfockdfaaVWords
namespace Go.Proofs.Ytafmeagfockdfaa
open Go Go.RowKit Go.Proofs.YtafmeagfockdfaaW.PrintWords

def Opens {α : Type} (P : Program) (t : TypeId) (d : Kd α) (G : α → Prop) : Prop :=
  d.sz = P.cellsOf t ∧ ∀ {H : Type} (enc : TypeId × Value → H) (W : World) (fuel : Nat) (cs : List Value) (dt : DataW H) (ps : List MemPlace),
    DataW.trod enc P W 0 (fun _ => true) true fuel t cs = some (dt, ps) → ∃ x, d.K W x cs ∧ G x

theorem Opens.imp {α : Type} {P : Program} {t : TypeId} {d : Kd α} {G G' : α → Prop} (h : Opens P t d G) (hi : ∀ x, G x → G' x) : Opens P t d G' :=
  ⟨h.1, fun enc W fuel cs dt ps ht => let ⟨x, h1, h2⟩ := h.2 enc W fuel cs dt ps ht; ⟨x, h1, hi x h2⟩⟩
theorem opens_int {P : Program} {t : TypeId} {k : IntKind} (hu : P.underlying t = some (.int k)) (hc : P.cellsOf t = 1) : Opens P t (Kd.int k) (fun x => (Lit.int k x).wf = true) := by
  refine ⟨hc.symm, fun enc W fuel cs dt ps h => ?_⟩
  cases fuel with
  | zero => simp [DataW.trod] at h
  | succ n =>
    unfold DataW.trod at h
    rw [hu] at h
    split at h <;> simp_all
    rename_i k' x hx
    subst hx
    exact ⟨_, ⟨rfl, h.1.2⟩⟩
theorem opens_bool {P : Program} {t : TypeId} (hu : P.underlying t = some .bool) (hc : P.cellsOf t = 1) : Opens P t Kd.bool (fun _ => True) := by
  refine ⟨hc.symm, fun enc W fuel cs dt ps h => ?_⟩
  cases fuel with
  | zero => simp [DataW.trod] at h
  | succ n =>
    unfold DataW.trod at h
    rw [hu] at h
    split at h <;> simp_all
    rename_i b
    cases b
    · exact .inl rfl
    · exact .inr rfl
theorem opens_string {P : Program} {t : TypeId} (hu : P.underlying t = some .string) (hc : P.cellsOf t = 1) : Opens P t Kd.string (fun s => s.size ≤ maxLen) := by
  refine ⟨hc.symm, fun enc W fuel cs dt ps h => ?_⟩
  cases fuel with
  | zero => simp [DataW.trod] at h
  | succ n =>
    unfold DataW.trod at h
    rw [hu] at h
    split at h <;> simp_all
    exact ⟨_, rfl, h.1⟩
theorem mapM_get {α β : Type} (f : α → Option β) : ∀ (l : List α) (ys : List β), l.mapM f = some ys → ys.length = l.length ∧ ∀ (i : Nat) (x : α), l[i]? = some x → ∃ y, ys[i]? = some y ∧ f x = some y := by
  intro l
  induction l with
  | nil => intro ys h; simp at h; subst h; simp
  | cons a l ih =>
    intro ys h
    rw [List.mapM_cons] at h
    simp only [Option.bind_eq_bind, Option.bind_eq_some_iff, Option.pure_def, Option.some.injEq] at h
    obtain ⟨y, hy, ys', hys, rfl⟩ := h
    obtain ⟨h1, h2⟩ := ih ys' hys
    refine ⟨by simp [h1], fun i x hx => ?_⟩
    cases i with
    | zero => simp at hx; subst hx; exact ⟨y, by simp, hy⟩
    | succ i => simpa using h2 i x (by simpa using hx)
theorem cells_get {W : World} {base : Nat} {a : Addr} {n : Nat} {c : List Value} (h : W.cells? base a n = some c) : c.length = n ∧ ∀ i u, c[i]? = some u → W.cell? (a.add i) = some u := by
  unfold World.cells? at h
  split at h
  · obtain ⟨h1, h2⟩ := mapM_get _ _ _ h
    rw [List.length_range] at h1
    refine ⟨h1, fun i u hu => ?_⟩
    have hi : i < n := by rw [← h1]; exact (List.getElem?_eq_some_iff.1 hu).1
    obtain ⟨y, hy, he⟩ := h2 i i (by simp [hi])
    rw [hu] at hy; cases hy
    exact he
  · cases h
theorem choose_list {α : Type} {R : Nat → α → Prop} (n : Nat) (h : ∀ i, i < n → ∃ x, R i x) : ∃ xs : List α, xs.length = n ∧ ∀ i x, xs[i]? = some x → R i x := by
  induction n with
  | zero => exact ⟨[], rfl, fun i x hx => by simp at hx⟩
  | succ n ih =>
    obtain ⟨xs, h1, h2⟩ := ih (fun i hi => h i (by omega))
    obtain ⟨x, hx⟩ := h n (by omega)
    refine ⟨xs ++ [x], by simp [h1], fun i y hy => ?_⟩
    by_cases c : i < n
    · exact h2 i y (by rwa [List.getElem?_append_left (by omega)] at hy)
    · have hi : i < (xs ++ [x]).length := (List.getElem?_eq_some_iff.1 hy).1
      have e : i = n := by simp [h1] at hi; omega
      subst e
      rw [List.getElem?_append_right (by omega), h1] at hy
      simp at hy; subst hy; exact hx
theorem opens_slice {α : Type} {P : Program} {t e : TypeId} {d : Kd α} {G : α → Prop} (hu : P.underlying t = some (.slice e)) (hc : P.cellsOf t = 1) (he : Opens P e d G) :
    Opens P t (Kd.slice e d) (fun xs => xs.length ≤ maxLen ∧ ∀ x ∈ xs, G x) := by
  refine ⟨hc.symm, fun enc W fuel cs dt ps h => ?_⟩
  cases fuel with
  | zero => simp [DataW.trod] at h
  | succ n =>
    unfold DataW.trod at h
    rw [hu] at h
    split at h
    all_goals first
      | (exfalso; simp_all; done)
      | skip
    · refine ⟨[], ⟨none, 0, rfl, Nat.le_refl _, rfl, Nat.zero_le _, fun h0 => absurd h0 (Nat.lt_irrefl 0)⟩, Nat.zero_le _, fun x hx => by cases hx⟩
    · rename_i e' a len cap hd
      cases hd
      simp only at h
      split at h
      · rename_i hb
        simp only [Option.bind_eq_some_iff, Option.map_eq_some_iff] at h
        obtain ⟨els, hels, _⟩ := h
        obtain ⟨h1, h2⟩ := mapM_get _ _ _ hels
        rw [List.length_range] at h1
        have hget : ∀ i, i < len → ∃ x, ∃ c : List Value, c.length = d.sz ∧ d.K W x c ∧ (∀ j u, c[j]? = some u → W.cell? (a.add (i * d.sz + j)) = some u) ∧ G x := by
          intro i hi
          obtain ⟨y, _, hy⟩ := h2 i i (by simp [hi])
          simp only [Option.bind_eq_some_iff] at hy
          obtain ⟨c, hc1, hc2⟩ := hy
          obtain ⟨x, hk, hg⟩ := he.2 enc W n c y.1 y.2 hc2
          obtain ⟨l1, l2⟩ := cells_get hc1
          refine ⟨x, c, by rw [l1, he.1], hk, fun j u hu => ?_, hg⟩
          rw [he.1, ← add_add]
          exact l2 j u hu
        obtain ⟨xs, hx1, hx2⟩ := choose_list len hget
        subst hx1
        refine ⟨xs, ⟨some a, cap, rfl, hb.2.1, rfl, ?_, fun _ => ⟨a, rfl, fun j p hp => ?_⟩⟩, ?_, fun x hx => ?_⟩
        · have := hb.2.1; have := hb.2.2; unfold maxLen at *; omega
        · obtain ⟨c, q1, q2, q3, _⟩ := hx2 j p hp
          exact ⟨c, q1, q2, q3⟩
        · have := hb.2.1; have := hb.2.2; omega
        · obtain ⟨i, hi, rfl⟩ := List.getElem_of_mem hx
          obtain ⟨_, _, _, _, q⟩ := hx2 i xs[i] (List.getElem?_eq_getElem hi)
          exact q
      · cases h
/-- A struct's fields, from one on. -/
def OpensF {α : Type} (P : Program) (fs : List Field) (off : Nat) (d : Kd α) (G : α → Prop) : Prop :=
  ∀ {H : Type} (enc : TypeId × Value → H) (W : World) (fuel : Nat) (cs : List Value) (xs : List (DataW H × List MemPlace)), cs.length = off + d.sz →
    (fs.mapM fun f => DataW.trod enc P W 0 (fun _ => true) true fuel f.type ((cs.drop f.offset).take (P.cellsOf f.type))) = some xs → ∃ x, d.K W x (cs.drop off) ∧ G x
theorem opensF_one {α : Type} {P : Program} {f : Field} {d : Kd α} {G : α → Prop} {off : Nat} (ho : f.offset = off) (h : Opens P f.type d G) : OpensF P [f] off d G := by
  intro H enc W fuel cs xs hl hm
  obtain ⟨_, h2⟩ := mapM_get _ _ _ hm
  obtain ⟨y, _, hy⟩ := h2 0 f rfl
  rw [ho, List.take_of_length_le (by rw [List.length_drop, ← h.1]; omega)] at hy
  exact h.2 enc W fuel _ _ _ hy
theorem opensF_cons {α β : Type} {P : Program} {f : Field} {fs : List Field} {d : Kd α} {d' : Kd β} {G : α → Prop} {G' : β → Prop} {off : Nat} (ho : f.offset = off) (h : Opens P f.type d G) (h' : OpensF P fs (off + d.sz) d' G') :
    OpensF P (f :: fs) off (Kd.pair d d') (fun p => G p.1 ∧ G' p.2) := by
  intro H enc W fuel cs xs hl hm
  have hl' : cs.length = off + d.sz + d'.sz := by rw [hl]; show off + (d.sz + d'.sz) = _; omega
  rw [List.mapM_cons] at hm
  simp only [Option.bind_eq_bind, Option.bind_eq_some_iff, Option.pure_def, Option.some.injEq] at hm
  obtain ⟨y, hy, ys, hys, _⟩ := hm
  obtain ⟨z, hz1, hz2⟩ := h' enc W fuel cs ys hl' hys
  rw [ho, ← h.1] at hy
  obtain ⟨x, hx1, hx2⟩ := h.2 enc W fuel _ y.1 y.2 hy
  refine ⟨(x, z), ⟨(cs.drop off).take d.sz, cs.drop (off + d.sz), ?_, hx1, hz1⟩, hx2, hz2⟩
  rw [← List.drop_drop, List.take_append_drop]
theorem opens_struct {α β : Type} {P : Program} {t : TypeId} {fs : Array Field} {d : Kd α} {G : α → Prop} (hu : P.underlying t = some (.struct fs)) (hc : P.cellsOf t = d.sz) (h : OpensF P fs.toList 0 d G) (f : β → α) (g : α → β) (hfg : ∀ a, f (g a) = a) :
    Opens P t (Kd.iso d f) (fun x => G (f x)) := by
  refine ⟨hc.symm, fun enc W fuel cs dt ps ht => ?_⟩
  cases fuel with
  | zero => simp [DataW.trod] at ht
  | succ n =>
    unfold DataW.trod at ht
    rw [hu] at ht
    simp only at ht
    split at ht
    · rename_i hlen
      simp only [Option.map_eq_some_iff] at ht
      obtain ⟨xs, hxs, _⟩ := ht
      obtain ⟨x, h1, h2⟩ := h enc W n cs xs (by omega) hxs
      exact ⟨g x, by show d.K W (f (g x)) cs; rw [hfg]; exact h1, by show G (f (g x)); rw [hfg]; exact h2⟩
    · cases ht
/-- An array's elements, from one on. -/
def OpensI {α : Type} (P : Program) (e : TypeId) (is : List Nat) (off : Nat) (d : Kd α) (G : α → Prop) : Prop :=
  ∀ {H : Type} (enc : TypeId × Value → H) (W : World) (fuel : Nat) (cs : List Value) (xs : List (DataW H × List MemPlace)), cs.length = off + d.sz →
    (is.mapM fun i => DataW.trod enc P W 0 (fun _ => true) true fuel e ((cs.drop (i * P.cellsOf e)).take (P.cellsOf e))) = some xs → ∃ x, d.K W x (cs.drop off) ∧ G x
theorem opensI_one {α : Type} {P : Program} {e : TypeId} {i : Nat} {d : Kd α} {G : α → Prop} {off : Nat} (ho : i * P.cellsOf e = off) (h : Opens P e d G) : OpensI P e [i] off d G := by
  intro H enc W fuel cs xs hl hm
  obtain ⟨_, h2⟩ := mapM_get _ _ _ hm
  obtain ⟨y, _, hy⟩ := h2 0 i rfl
  rw [ho, List.take_of_length_le (by rw [List.length_drop, ← h.1]; omega)] at hy
  exact h.2 enc W fuel _ _ _ hy
theorem opensI_cons {α β : Type} {P : Program} {e : TypeId} {i : Nat} {is : List Nat} {d : Kd α} {d' : Kd β} {G : α → Prop} {G' : β → Prop} {off : Nat} (ho : i * P.cellsOf e = off) (h : Opens P e d G) (h' : OpensI P e is (off + d.sz) d' G') :
    OpensI P e (i :: is) off (Kd.pair d d') (fun p => G p.1 ∧ G' p.2) := by
  intro H enc W fuel cs xs hl hm
  have hl' : cs.length = off + d.sz + d'.sz := by rw [hl]; show off + (d.sz + d'.sz) = _; omega
  rw [List.mapM_cons] at hm
  simp only [Option.bind_eq_bind, Option.bind_eq_some_iff, Option.pure_def, Option.some.injEq] at hm
  obtain ⟨y, hy, ys, hys, _⟩ := hm
  obtain ⟨z, hz1, hz2⟩ := h' enc W fuel cs ys hl' hys
  rw [ho, ← h.1] at hy
  obtain ⟨x, hx1, hx2⟩ := h.2 enc W fuel _ y.1 y.2 hy
  refine ⟨(x, z), ⟨(cs.drop off).take d.sz, cs.drop (off + d.sz), ?_, hx1, hz1⟩, hx2, hz2⟩
  rw [← List.drop_drop, List.take_append_drop]
theorem opens_array {α β : Type} {P : Program} {t e : TypeId} {n : Nat} {d : Kd α} {G : α → Prop} (hu : P.underlying t = some (.array n e)) (hc : P.cellsOf t = d.sz) (h : OpensI P e (List.range n) 0 d G) (f : β → α) (g : α → β) (hfg : ∀ a, f (g a) = a) :
    Opens P t (Kd.iso d f) (fun x => G (f x)) := by
  refine ⟨hc.symm, fun enc W fuel cs dt ps ht => ?_⟩
  cases fuel with
  | zero => simp [DataW.trod] at ht
  | succ m =>
    unfold DataW.trod at ht
    rw [hu] at ht
    simp only at ht
    split at ht
    · rename_i hlen
      simp only [Option.map_eq_some_iff] at ht
      obtain ⟨xs, hxs, _⟩ := ht
      obtain ⟨x, h1, h2⟩ := h enc W m cs xs (by omega) hxs
      exact ⟨g x, by show d.K W (f (g x)) cs; rw [hfg]; exact h1, by show G (f (g x)); rw [hfg]; exact h2⟩
    · cases ht
/-- Where a read value's places lie. -/
theorem opens_arg {α : Type} {P : Program} {t : TypeId} {d : Kd α} {G : α → Prop} (h : Opens P t d G) {H : Type} {enc : TypeId × Value → H} {W : World} {v : Value} {dt : DataW H} {ps : List MemPlace} (ht : DataW.Trod enc P W 0 (fun _ => true) true t v dt ps) :
    ∃ x, d.K W x v.cells.toList ∧ G x := by
  obtain ⟨fuel, hf⟩ := ht
  exact h.2 enc W fuel _ _ _ hf
theorem agg_of {P : Program} {W : World} {base : Nat} {t : TypeId} {v : Value} {ds : TypeDesc} (hs : (∃ fs, ds = .struct fs) ∨ ∃ n e, ds = .array n e) (hu : P.underlying t = some ds) (h : Value.okWide P W .any base t v) : ∃ cs, v = .agg cs := by
  unfold Value.okWide at h
  rw [hu] at h
  rcases hs with ⟨fs, rfl⟩ | ⟨n, e, rfl⟩
  · obtain ⟨cs, rfl, _⟩ := h; exact ⟨cs, rfl⟩
  · obtain ⟨cs, rfl, _⟩ := h; exact ⟨cs, rfl⟩
end Go.Proofs.Ytafmeagfockdfaa
