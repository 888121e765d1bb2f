/-
  Names that stand one behind the other: the words' view, the places that are needed, the names that are told.
-/
import Derived.Test.YtafmeagfockdfaaOpDynamicLists
import Derived.Test.YtafmeagfockdfaaPureDynamicBack
import Derived.Test.YtafmeagfockdfaaFlText
namespace Go.Proofs.Ytafmeagfockdfaa.Pure
open Go.Proofs.Ytafmeagfockdfaa.Evs Go.RowKit Go.Proofs.Ytafmeagfockdfaa.Fl Go.Proofs.YtafmeagfockdfaaW.PrintWords
set_option linter.unusedVariables false
namespace Lists
theorem ba_toList (s : ByteArray) : s.toList = s.data.toList := by
  exact ByteArray.toList_eq s
/-- A view in which words of two bytes stand one behind the other, each with a zero behind it, from p on. -/
structure View (V : ByteArray) (p : Nat) (ws : List ByteArray) : Prop where
  sz : V.size = p + 3 * ws.length
  at_ : ∀ k, (h : k < ws.length) → ∃ a b : UInt8, a ≠ 0 ∧ b ≠ 0 ∧ (ws[k]).data.toList = [a, b] ∧ ∃ rest, V.data.toList.drop (p + 3 * k) = a :: b :: 0 :: rest
theorem View.more {V : ByteArray} {p : Nat} {ws : List ByteArray} (h : View V p ws) (c : ByteArray) (a b : UInt8) (ha : a ≠ 0) (hb : b ≠ 0) (hc : c.data.toList = [a, b]) : View ((V ++ c) ++ (⟨#[0]⟩ : ByteArray)) p (ws ++ [c]) := by
  have hcs : c.size = 2 := by rw [← ba_ln, hc]; rfl
  refine ⟨?_, fun k hk => ?_⟩
  · have h1 : ((⟨#[0]⟩ : ByteArray)).size = 1 := rfl
    have h2 := h.sz
    rw [ByteArray.size_append, ByteArray.size_append, h1, List.length_append, List.length_singleton]
    omega
  · have hd : ((V ++ c) ++ (⟨#[0]⟩ : ByteArray)).data.toList = V.data.toList ++ [a, b, 0] := by simp [hc]
    have hl := ba_ln V
    have hsz := h.sz
    rw [hd]
    by_cases hkl : k < ws.length
    · obtain ⟨x, y, h1, h2, h3, rest, h4⟩ := h.at_ k hkl
      refine ⟨x, y, h1, h2, ?_, rest ++ [a, b, 0], ?_⟩
      · rw [List.getElem_append_left hkl]; exact h3
      · rw [List.drop_append_of_le_length (by omega), h4]
        rfl
    · have hke : k = ws.length := by simp at hk; omega
      subst hke
      refine ⟨a, b, ha, hb, ?_, [], ?_⟩
      · rw [List.getElem_append_right (Nat.le_refl _)]
        simpa using hc
      · rw [List.drop_append, List.drop_of_length_le (by omega), show p + 3 * ws.length - V.data.toList.length = 0 by omega]
        rfl
/-- The names' part of what stands there. -/
def part (V : ByteArray) (p n : Nat) : ByteArray := (V.extract p V.size).extract 0 (3 * n)
theorem bt_of {s : ByteArray} {i : Nat} {a : UInt8} {rest : List UInt8} (h : s.data.toList.drop i = a :: rest) : bt s (i : Int) = (a.toNat : Int) := by
  have hl := congrArg List.length h
  rw [List.length_drop, List.length_cons] at hl
  have hi : i < s.data.toList.length := by omega
  rw [bt_get s i hi]
  have := List.drop_eq_getElem_cons hi
  rw [h] at this
  injection this with this _
  rw [this]
theorem toNat_ne {a : UInt8} (h : a ≠ 0) : (a.toNat : Int) ≠ 0 := by
  intro e
  apply h
  apply UInt8.toNat_inj.mp
  have : (0 : UInt8).toNat = 0 := rfl
  omega
theorem part_at {V : ByteArray} {p : Nat} {ws : List ByteArray} (h : View V p ws) (E : ByteArray) (hs : p + 3 * ws.length ≤ 1000000) (hE : E.size ≤ 1000) : (part (V ++ E) p ws.length).size = 3 * ws.length ∧
    ∀ k, (hk : k < ws.length) → Ev (fun q => octet_Text.f q (part (V ++ E) p ws.length) ((3 * k : Nat) : Int) 24) (ws[k], true) := by
  have hl := ba_ln V
  have hsz := h.sz
  have hP : (part (V ++ E) p ws.length).data.toList = V.data.toList.drop p := by
    unfold part
    rw [ba_cut, ba_cut, ByteArray.size_append]
    simp only [ByteArray.data_append, Array.toList_append, List.drop_zero, Nat.sub_zero]
    rw [List.drop_append_of_le_length (by omega), List.take_take, List.take_append_of_le_length (by rw [List.length_drop]; omega), List.take_of_length_le (by rw [List.length_drop]; omega)]
  have hps : (part (V ++ E) p ws.length).size = 3 * ws.length := by
    rw [← ba_ln, hP, List.length_drop]
    omega
  refine ⟨hps, fun k hk => ?_⟩
  obtain ⟨a, b, ha, hb, hw, rest, hd⟩ := h.at_ k hk
  have d0 : (part (V ++ E) p ws.length).data.toList.drop (3 * k) = a :: b :: 0 :: rest := by rw [hP, List.drop_drop]; exact hd
  have d1 : (part (V ++ E) p ws.length).data.toList.drop (3 * k + 1) = b :: 0 :: rest := by rw [← List.drop_drop, d0]; rfl
  have d2 : (part (V ++ E) p ws.length).data.toList.drop (3 * k + 2) = 0 :: rest := by rw [← List.drop_drop, d0]; rfl
  have ht := text_ev (part (V ++ E) p ws.length) (by omega) (3 * k) 2 (by omega) (by omega) (by rw [bt_of d2]; rfl) (fun j hj => by
    match j, hj with
    | 0, _ => rw [Nat.add_zero, bt_of d0]; exact toNat_ne ha
    | 1, _ => rw [bt_of d1]; exact toNat_ne hb)
  refine Ev.eq ht ?_
  congr 1
  apply ba_eq
  rw [ba_cut, d0, hw, show 3 * k + 2 - 3 * k = 2 by omega]
  rfl
/-- dynamic.Name over such a view. -/
theorem name_ev (V : ByteArray) (p n : Nat) (l : List Int) (at_ : Int) (z : ByteArray × Bool) (hp : p ≤ V.size) (hn : 3 * n ≤ V.size - p) (h : Ev (fun q => octet_Text.f q (part V p n) at_ 24) z) :
    Ev (fun q => dynamic_Name.f q V l (p : Int) ((3 * n : Nat) : Int) 0 0 0 0 0 0 at_) z := by
  have hs : (V.extract ((p : Int).toNat) V.size).size = V.size - p := by rw [Int.toNat_natCast, ByteArray.size_extract]; omega
  have hm : mn (((V.extract ((p : Int).toNat) V.size).size : Nat) : Int) (mx ((3 * n : Nat) : Int) 0) = ((3 * n : Nat) : Int) := by
    rw [hs]
    unfold mn mx
    split <;> split <;> omega
  unfold dynamic_Name.f
  rw [hm]
  refine Ev.neg (by omega) (Ev.neg (by omega) (Ev.pos (by omega) (Ev.pos (by omega) (Ev.pos (by omega) (Ev.pos (by rw [hs]; omega) ?_)))))
  rw [Int.toNat_natCast, Int.toNat_natCast]
  refine Ev.bind h (Ev.some ?_)
  rfl
/-- A list of places, each a word's; what is told. -/
def picked (ws : List ByteArray) (ks : List Nat) : List ByteArray := ks.map fun (k : Nat) => rdOf ByteArray.empty ws (k : Int)
def placesOf (ks : List Nat) : List Int := ks.map fun (k : Nat) => ((3 * k : Nat) : Int)
theorem rdOf_get {ws : List ByteArray} {k : Nat} (h : k < ws.length) : rdOf ByteArray.empty ws (k : Int) = ws[k] := by
  unfold rdOf
  rw [Int.toNat_natCast, List.getD_eq_getElem?_getD, List.getElem?_eq_getElem h]
  rfl
theorem names_l0 {V E : ByteArray} {p : Nat} {ws : List ByteArray} (h : View V p ws) (hs : p + 3 * ws.length ≤ 1000000) (hE : E.size ≤ 1000) (all : List Int) (r : List ByteArray × Int) (ks ks0 : List Nat) (rest : List Int) (hks : ∀ k ∈ ks, k < ws.length) :
    all = placesOf ks0 ++ (placesOf ks ++ rest) → all.length ≤ 1000 →
      Ev (fun q => dynamic_Names.l0 q (V ++ E) (picked ws ks0 ++ picked ws ks) all (all.length : Int) ((ks0.length + ks.length : Nat) : Int) all (p : Int) ((3 * ws.length : Nat) : Int) 0 0 0 0 0 0) r →
        Ev (fun q => dynamic_Names.l0 q (V ++ E) (picked ws ks0) all (all.length : Int) (ks0.length : Int) all (p : Int) ((3 * ws.length : Nat) : Int) 0 0 0 0 0 0) r := by
  induction ks generalizing ks0 with
  | nil =>
    intro _ _ hr
    simpa [picked] using hr
  | cons k ks ih =>
    intro hall hlen hr
    have hk := hks k List.mem_cons_self
    have hL := congrArg List.length hall
    simp only [placesOf, List.length_append, List.length_map, List.length_cons] at hL
    obtain ⟨hps, htx⟩ := part_at h E hs hE
    have hsz := h.sz
    have hpk : rd all (ks0.length : Int) = ((3 * k : Nat) : Int) := by
      unfold rd
      rw [hall, Int.toNat_natCast, List.getD_eq_getElem?_getD, List.getElem?_append_right (by simp [placesOf])]
      simp [placesOf]
    have hne : ¬ (ws[k]).toList = ([] : List UInt8) := by
      obtain ⟨a, b, _, _, hw, _⟩ := h.at_ k hk
      intro e
      have : (ws[k]).data.toList = [] := by rw [← ba_toList]; exact e
      rw [hw] at this
      cases this
    refine Ev.succ ?_
    simp only [dynamic_Names.l0]
    refine Ev.pos (by omega) (Ev.pos (by omega) (Ev.pos (by omega) ?_))
    rw [hpk]
    refine Ev.bind (name_ev (V ++ E) p ws.length all _ _ (by rw [ByteArray.size_append]; omega) (by rw [ByteArray.size_append]; omega) (htx k hk)) ?_
    refine Ev.pos rfl (Ev.neg hne (Ev.pos (by simp [picked]; omega) ?_))
    rw [show wrap64 ((ks0.length : Int) + 1) = (((ks0 ++ [k]).length : Nat) : Int) by rw [w64 (by omega), List.length_append, List.length_singleton]; rfl]
    rw [show picked ws ks0 ++ [ws[k]] = picked ws (ks0 ++ [k]) by simp [picked, rdOf_get hk]]
    refine ih (ks0 ++ [k]) (fun x hx => hks x (List.mem_cons_of_mem _ hx)) (by rw [hall]; simp [placesOf]) hlen ?_
    rw [show picked ws (ks0 ++ [k]) ++ picked ws ks = picked ws ks0 ++ picked ws (k :: ks) by simp [picked]]
    rw [show (ks0 ++ [k]).length + ks.length = ks0.length + (k :: ks).length by simp; omega]
    exact hr
theorem names_ok {V E : ByteArray} {p : Nat} {ws : List ByteArray} (h : View V p ws) (hs : p + 3 * ws.length ≤ 1000000) (hE : E.size ≤ 1000) (ks : List Nat) (hks : ∀ k ∈ ks, k < ws.length) (hl : ks.length ≤ 900) :
    Ev (fun q => dynamic_Names.f q (V ++ E) (placesOf ks) (p : Int) ((3 * ws.length : Nat) : Int) 0 0 0 0 0 0) (picked ws ks, 0) := by
  unfold dynamic_Names.f
  refine names_l0 h hs hE (placesOf ks) _ ks [] [] hks (by simp [placesOf]) (by simp [placesOf]; omega) ?_
  refine Ev.succ ?_
  simp only [dynamic_Names.l0]
  exact Ev.neg (by simp [placesOf]) (Ev.some (by simp [picked]))
theorem names_bad {V E : ByteArray} {p : Nat} {ws : List ByteArray} (h : View V p ws) (hs : p + 3 * ws.length ≤ 1000000) (hE : E.size ≤ 1000) (ks : List Nat) (hks : ∀ k ∈ ks, k < ws.length) (hl : ks.length ≤ 900) :
    Ev (fun q => dynamic_Names.f q (V ++ E) (placesOf ks ++ [((3 * ws.length : Nat) : Int)]) (p : Int) ((3 * ws.length : Nat) : Int) 0 0 0 0 0 0) ([], 17) := by
  obtain ⟨hps, _⟩ := part_at h E hs hE
  have hsz := h.sz
  unfold dynamic_Names.f
  refine names_l0 h hs hE (placesOf ks ++ [((3 * ws.length : Nat) : Int)]) _ ks [] [((3 * ws.length : Nat) : Int)] hks (by simp [placesOf]) (by simp [placesOf]; omega) ?_
  have hrd : rd (placesOf ks ++ [((3 * ws.length : Nat) : Int)]) ((([] : List Nat).length + ks.length : Nat) : Int) = ((3 * ws.length : Nat) : Int) := by
    unfold rd
    rw [Int.toNat_natCast, List.getD_eq_getElem?_getD, List.getElem?_append_right (by simp [placesOf])]
    simp [placesOf]
  refine Ev.succ ?_
  simp only [dynamic_Names.l0]
  refine Ev.pos (by simp [placesOf]; omega) (Ev.pos (by omega) (Ev.pos (by simp [placesOf]; omega) ?_))
  rw [hrd]
  refine Ev.bind (name_ev (V ++ E) p ws.length _ _ _ (by rw [ByteArray.size_append]; omega) (by rw [ByteArray.size_append]; omega) (text_out _ _ (by omega))) ?_
  exact Ev.neg (by decide) (Ev.some rfl)
theorem same_texts (l : List ByteArray) (hl : l.length ≤ 1000) : Ev (fun q => flyleafref09_SameTexts.f q l l) true := by
  unfold flyleafref09_SameTexts.f
  refine Ev.pos rfl ?_
  have key : ∀ (d i : Nat), i + d = l.length → Ev (fun q => flyleafref09_SameTexts.l0 q l l (i : Int)) true := by
    intro d
    induction d with
    | zero =>
      intro i hi
      refine Ev.succ ?_
      simp only [flyleafref09_SameTexts.l0]
      exact Ev.neg (by omega) (Ev.some rfl)
    | succ d ih =>
      intro i hi
      refine Ev.succ ?_
      simp only [flyleafref09_SameTexts.l0]
      refine Ev.pos (by omega) (Ev.pos (by omega) (Ev.pos (by omega) ?_))
      rw [show wrap64 ((i : Int) + 1) = ((i + 1 : Nat) : Int) by rw [w64 (by omega)]; rfl]
      first
        | exact Ev.pos rfl (ih (i + 1) (by omega))
        | exact Ev.pos trivial (ih (i + 1) (by omega))
  exact key l.length 0 (by omega)
theorem j3_ev {V : ByteArray} {p : Nat} {ws : List ByteArray} (h : View V p ws) (hs : p + 3 * ws.length ≤ 1000000) (ks : List Nat) (hks : ∀ k ∈ ks, k < ws.length) (hl : ks.length ≤ 900) :
    Ev (fun q => flyleaflaw09_DynamicLists.j3 q true V (picked ws ks) (placesOf ks) (p : Int) ((3 * ws.length : Nat) : Int) 0 0 0 0 0 0) true := by
  have hE : (⟨#[109, 111, 114, 101, 0]⟩ : ByteArray).size = 5 := rfl
  have hsz := h.sz
  obtain ⟨hps, _⟩ := part_at h (⟨#[109, 111, 114, 101, 0]⟩ : ByteArray) hs (by omega)
  refine Ev.succ ?_
  simp only [flyleaflaw09_DynamicLists.j3]
  refine Ev.pos (by omega) ?_
  refine Ev.bind (names_ok h hs (by omega) ks hks hl) ?_
  refine Ev.bind (same_texts _ (by simp [picked]; omega)) ?_
  refine Ev.bind (name_ev (V ++ (⟨#[109, 111, 114, 101, 0]⟩ : ByteArray)) p ws.length (placesOf ks) _ _ (by rw [ByteArray.size_append]; omega) (by rw [ByteArray.size_append]; omega) (text_out _ (3 * ws.length) (by omega))) ?_
  refine Ev.pos (by simp [placesOf]; omega) ?_
  refine Ev.bind (names_bad h hs (by omega) ks hks hl) ?_
  first
    | exact Ev.pos trivial (Ev.pos rfl (Ev.pos rfl (Ev.neg (by decide) (Ev.some rfl))))
    | exact Ev.pos rfl (Ev.pos rfl (Ev.pos rfl (Ev.neg (by decide) (Ev.some rfl))))
theorem l1_ev {V : ByteArray} {p : Nat} {ws : List ByteArray} (h : View V p ws) (hs : p + 3 * ws.length ≤ 1000000) (x2 : List Int) (hw : ws.length ≤ 6) : ∀ (d : Nat) (ks : List Nat), ks.length + d = 8 → (∀ k ∈ ks, k < ws.length) →
    Ev (fun q => flyleaflaw09_DynamicLists.l1 q x2 true V ws (placesOf (List.range ws.length)) (picked ws ks) (ks.length : Int) (placesOf ks) (p : Int) ((3 * ws.length : Nat) : Int) 0 0 0 0 0 0) true := by
  intro d
  induction d with
  | zero =>
    intro ks hk hks
    refine Ev.succ ?_
    simp only [flyleaflaw09_DynamicLists.l1]
    have next := j3_ev h hs ks hks (by omega)
    by_cases hc : (ks.length : Int) < (x2.length : Int)
    · exact Ev.pos hc (Ev.neg (by omega) next)
    · exact Ev.neg hc next
  | succ d ih =>
    intro ks hk hks
    refine Ev.succ ?_
    simp only [flyleaflaw09_DynamicLists.l1]
    have next := j3_ev h hs ks hks (by omega)
    by_cases hc : (ks.length : Int) < (x2.length : Int)
    · by_cases hn : (ws.length : Int) > 0
      · obtain ⟨a, ha⟩ : ∃ a : Int, Int.tmod (rd x2 (ks.length : Int)) (ws.length : Int) = a := ⟨_, rfl⟩
        have ha1 : a < (ws.length : Int) := by rw [← ha]; exact Int.tmod_lt_of_pos _ (by omega)
        have ha2 : -(ws.length : Int) < a := by
          rw [← ha]
          have h1 := Int.tmod_lt_of_pos (-(rd x2 (ks.length : Int))) (show 0 < (ws.length : Int) by omega)
          rw [Int.neg_tmod] at h1
          omega
        have hwr : wrap64 (a + (ws.length : Int)) = a + (ws.length : Int) := w64 (by omega)
        obtain ⟨k, hk2⟩ : ∃ k : Nat, Int.tmod (a + (ws.length : Int)) (ws.length : Int) = (k : Int) ∧ k < ws.length := by
          have h0 := Int.tmod_nonneg (ws.length : Int) (show 0 ≤ a + (ws.length : Int) by omega)
          have h1 := Int.tmod_lt_of_pos (a + (ws.length : Int)) (show 0 < (ws.length : Int) by omega)
          exact ⟨(Int.tmod (a + (ws.length : Int)) (ws.length : Int)).toNat, by omega, by omega⟩
        rw [ha, hwr, hk2.1]
        have hpl : rd (placesOf (List.range ws.length)) (k : Int) = ((3 * k : Nat) : Int) := by
          unfold rd placesOf
          rw [Int.toNat_natCast, List.getD_eq_getElem?_getD]
          simp [hk2.2]
        refine Ev.pos hc (Ev.pos (by omega) (Ev.pos hn (Ev.pos (by omega) (Ev.neg (by omega) (Ev.pos (by omega) (Ev.pos (by simp [placesOf]; omega) (Ev.pos (by simp [placesOf]; omega) (Ev.pos (by omega) (Ev.pos (by simp [picked]; omega) ?_)))))))))
        rw [hpl, show wrap64 ((ks.length : Int) + 1) = (((ks ++ [k]).length : Nat) : Int) by rw [w64 (by omega), List.length_append, List.length_singleton]; rfl]
        rw [show picked ws ks ++ [rdOf ByteArray.empty ws (k : Int)] = picked ws (ks ++ [k]) by simp [picked], show placesOf ks ++ [((3 * k : Nat) : Int)] = placesOf (ks ++ [k]) by simp [placesOf]]
        refine ih (ks ++ [k]) (by simp; omega) (fun x hx => ?_)
        rcases List.mem_append.mp hx with hx | hx
        · exact hks x hx
        · rw [List.mem_singleton] at hx
          subst hx
          exact hk2.2
      · exact Ev.pos hc (Ev.pos (by omega) (Ev.neg hn next))
    · exact Ev.neg hc next
theorem j1_ev {V : ByteArray} {p : Nat} {ws : List ByteArray} (h : View V p ws) (hs : p + 3 * ws.length ≤ 1000000) (x2 : List Int) (hw : ws.length ≤ 6) :
    Ev (fun q => flyleaflaw09_DynamicLists.j1 q x2 true V ws (placesOf (List.range ws.length)) (p : Int) 0 0 0 0 0 0 0) true := by
  refine Ev.succ ?_
  simp only [flyleaflaw09_DynamicLists.j1]
  have hsz := h.sz
  rw [show wrap64 ((V.size : Int) - (p : Int)) = ((3 * ws.length : Nat) : Int) by rw [w64 (by omega)]; omega]
  exact l1_ev h hs x2 hw 8 [] rfl (fun k hk => by cases hk)
end Lists
end Go.Proofs.Ytafmeagfockdfaa.Pure
