/-
  DynamicLists, over numbers and lists: the words' view, the places that are needed, the names that are told.
-/
import Derived.Test.YtafmeagfockdfaaFlNames
namespace Go.Proofs.Ytafmeagfockdfaa.Pure
open Go.Proofs.Ytafmeagfockdfaa.Evs Go.RowKit Go.Proofs.Ytafmeagfockdfaa.Fl Go.Proofs.YtafmeagfockdfaaW.PrintWords
set_option linter.unusedVariables false
namespace Lists
theorem nz (x : Int) (h1 : 1 ≤ x) (h2 : x < 256) : UInt8.ofNat x.toNat ≠ 0 := fun e => by
  have h := congrArg UInt8.toNat e
  rw [UInt8.toNat_ofNat'] at h
  have h0 : (0 : UInt8).toNat = 0 := rfl
  omega
theorem l0_ev (x0 x2 : List Int) (p : Nat) (hp : p ≤ 1000) : ∀ (d : Nat) (V : ByteArray) (ws : List ByteArray), ws.length + d = 6 → View V p ws →
    Ev (fun q => flyleaflaw09_DynamicLists.l0 q x0 x2 true V ws (placesOf (List.range ws.length)) (ws.length : Int) (p : Int) 0 0 0 0 0 0 0) true := by
  intro d
  induction d with
  | zero =>
    intro V ws hd h
    refine Ev.succ ?_
    simp only [flyleaflaw09_DynamicLists.l0]
    have next := j1_ev h (by omega) x2 (by omega)
    by_cases hc : (ws.length : Int) < (x0.length : Int)
    · exact Ev.pos hc (Ev.neg (by omega) next)
    · exact Ev.neg hc next
  | succ d ih =>
    intro V ws hd h
    refine Ev.succ ?_
    simp only [flyleaflaw09_DynamicLists.l0]
    have next := j1_ev h (by omega) x2 (by omega)
    have hsz := h.sz
    by_cases hc : (ws.length : Int) < (x0.length : Int)
    · obtain ⟨a, ha⟩ : ∃ a : Int, Go.bits .and .i64 (rd x0 (ws.length : Int)) 7 = a := ⟨_, rfl⟩
      have ha2 : 0 ≤ a ∧ a < 8 := by rw [← ha, i64_and7]; omega
      have e2 : (wrap64 (48 + (ws.length : Int))) % 256 = 48 + (ws.length : Int) := by rw [w64 (by omega)]; omega
      have e1 : (wrap64 (97 + a)) % 256 = 97 + a := by clear e2; rw [w64 (by omega)]; omega
      rw [ha, e1, e2]
      clear e1 e2 ha
      have h1 : ((⟨#[0]⟩ : ByteArray)).size = 1 := rfl
      simp only [Option.bind_some]
      refine Ev.pos hc (Ev.pos (by omega) (Ev.pos (by omega) ?_))
      obtain ⟨c, hcd⟩ : ∃ c, strOfNums [97 + a, 48 + (ws.length : Int)] = c := ⟨_, rfl⟩
      have hcs : c.size = 2 := by rw [← hcd, strOfNums_size]; rfl
      have hcl : c.data.toList = [UInt8.ofNat (97 + a).toNat, UInt8.ofNat (48 + (ws.length : Int)).toNat] := by rw [← hcd]; exact strOfNums_data _
      simp only [hcd]
      clear hcd
      have g1 : ws.length < 8796093022208 := Nat.lt_of_lt_of_le (show ws.length < 7 by omega) (by decide)
      have g2 : (placesOf (List.range ws.length)).length < 17592186044416 := by rw [placesOf, List.length_map, List.length_range]; exact Nat.lt_of_lt_of_le (show ws.length < 7 by omega) (by decide)
      have g3 : V.size + c.size ≤ 9223372036854775807 := by omega
      have g4 : (V ++ c).size + 1 ≤ 9223372036854775807 := by rw [ByteArray.size_append]; omega
      refine Ev.pos g1 (Ev.pos g2 (Ev.pos g3 (Ev.pos g4 ?_)))
      rw [show wrap64 ((V.size : Int) - (p : Int)) = ((3 * ws.length : Nat) : Int) by rw [w64 (by omega)]; omega, show wrap64 ((ws.length : Int) + 1) = (((ws ++ [c]).length : Nat) : Int) by rw [w64 (by omega), List.length_append, List.length_singleton]; rfl]
      rw [show placesOf (List.range ws.length) ++ [((3 * ws.length : Nat) : Int)] = placesOf (List.range (ws ++ [c]).length) by simp [placesOf, List.range_succ]]
      exact ih _ (ws ++ [c]) (by simp; omega) (h.more _ _ _ (nz (97 + a) (by omega) (by omega)) (nz (48 + (ws.length : Int)) (by omega) (by omega)) hcl)
    · exact Ev.neg hc next
end Lists
theorem DynamicLists : DynamicLists.Said := by
  intro x0 x1 x2 _ _ _
  refine Ev.rounds (g := fun k => flyleaflaw09_DynamicLists.f k x0 x1 x2) ?_
  unfold flyleaflaw09_DynamicLists.f
  refine Ev.pure awake09 ?_
  rw [i64_and63]
  obtain ⟨p, hp⟩ : ∃ p : Nat, x1 % 64 = (p : Int) := ⟨(x1 % 64).toNat, by omega⟩
  rw [hp]
  obtain ⟨t, ht, hts⟩ := fill_empty p (by omega)
  refine Ev.pure ht ?_
  rw [hts]
  exact Lists.l0_ev x0 x2 p (by omega) 6 t [] rfl ⟨by simpa using hts, fun k hk => by cases hk⟩
end Go.Proofs.Ytafmeagfockdfaa.Pure
