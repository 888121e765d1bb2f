-- Written by prn.py, a program of this session over the kit's printer. Not trusted: Lean checks it.
import Derived.Test.YtafmeagfockdfaaFl0
import Derived.Test.YtafmeagfockdfaaFl4
import Derived.Test.YtafmeagfockdfaaFl5
import Derived.Test.YtafmeagfockdfaaFl7
import Derived.Test.YtafmeagfockdfaaFl8
import Derived.Test.YtafmeagfockdfaaFl8n
namespace Go.Proofs.Ytafmeagfockdfaa.Fl
open Go.RowKit Go.Proofs.YtafmeagfockdfaaW.PrintWords Go.Proofs.YtafmeagfockdfaaW.PrintLast Go.Proofs.YtafmeagfockdfaaW.PrintMore
attribute [local go_sem] max2_int min2_int max_two min_two max_three min_three max_four min_four   -- for this text's walks alone
set_option linter.unusedVariables false
set_option linter.unusedSimpArgs false

/-! ### flyleaflaw09_DynamicLists: function 13 -/
mutual
def flyleaflaw09_DynamicLists.j1 : Nat → List Int → Bool → ByteArray → List ByteArray → List Int → Int → Int → Int → Int → Int → Int → Int → Int → Option (Bool)
  | 0, _, _, _, _, _, _, _, _, _, _, _, _, _ => none
  | k + 1, x2, x7, x8, x10, x11, x221001, x221002, x221003, x221004, x221005, x221006, x221007, x221008 => flyleaflaw09_DynamicLists.l1 k x2 x7 x8 x10 x11 ([] : List ByteArray) 0 ([] : List Int) x221001 (wrap64 ((x8.size : Int) - x221001)) x221003 x221004 x221005 x221006 x221007 x221008
def flyleaflaw09_DynamicLists.j3 : Nat → Bool → ByteArray → List ByteArray → List Int → Int → Int → Int → Int → Int → Int → Int → Int → Option (Bool)
  | 0, _, _, _, _, _, _, _, _, _, _, _, _ => none
  | k + 1, x7, x8, x14, x221000, x221001, x221002, x221003, x221004, x221005, x221006, x221007, x221008 => if x8.size + 5 ≤ 9223372036854775807 then ((dynamic_Names.f k (x8 ++ (⟨#[109, 111, 114, 101, 0]⟩ : ByteArray)) x221000 x221001 x221002 x221003 x221004 x221005 x221006 x221007 x221008).bind fun bt240 => ((flyleafref09_SameTexts.f k bt240.1 x14).bind fun t244 => ((dynamic_Name.f k (x8 ++ (⟨#[109, 111, 114, 101, 0]⟩ : ByteArray)) x221000 x221001 x221002 x221003 x221004 x221005 x221006 x221007 x221008 x221002).bind fun bt245 => (if x221000.length < 17592186044416 then ((dynamic_Names.f k (x8 ++ (⟨#[109, 111, 114, 101, 0]⟩ : ByteArray)) (x221000 ++ [x221002]) x221001 x221002 x221003 x221004 x221005 x221006 x221007 x221008).bind fun bt250 => (if x7 = true then (if t244 = true then (if bt240.2 = 0 then (if bt245.2 = true then (some false) else (some (bt250.2 == 17))) else (some false)) else (some false)) else (some false))) else (none))))) else (none)
def flyleaflaw09_DynamicLists.l1 : Nat → List Int → Bool → ByteArray → List ByteArray → List Int → List ByteArray → Int → List Int → Int → Int → Int → Int → Int → Int → Int → Int → Option (Bool)
  | 0, _, _, _, _, _, _, _, _, _, _, _, _, _, _, _, _ => none
  | k + 1, x2, x7, x8, x10, x11, x14, x15, x221000, x221001, x221002, x221003, x221004, x221005, x221006, x221007, x221008 => if x15 < (x2.length : Int) then (if x15 < 8 then (if (x10.length : Int) > 0 then (if 0 ≤ x15 then (if (x10.length : Int) = 0 then (none) else (if 0 ≤ (Int.tmod (wrap64 ((Int.tmod (rd x2 x15) (x10.length : Int)) + (x10.length : Int))) (x10.length : Int)) then (if (Int.tmod (wrap64 ((Int.tmod (rd x2 x15) (x10.length : Int)) + (x10.length : Int))) (x10.length : Int)) < (x11.length : Int) then (if x221000.length < 17592186044416 then (if (Int.tmod (wrap64 ((Int.tmod (rd x2 x15) (x10.length : Int)) + (x10.length : Int))) (x10.length : Int)) < (x10.length : Int) then (if x14.length < 8796093022208 then (flyleaflaw09_DynamicLists.l1 k x2 x7 x8 x10 x11 (x14 ++ [rdOf ByteArray.empty x10 (Int.tmod (wrap64 ((Int.tmod (rd x2 x15) (x10.length : Int)) + (x10.length : Int))) (x10.length : Int))]) (wrap64 (x15 + 1)) (x221000 ++ [rd x11 (Int.tmod (wrap64 ((Int.tmod (rd x2 x15) (x10.length : Int)) + (x10.length : Int))) (x10.length : Int))]) x221001 x221002 x221003 x221004 x221005 x221006 x221007 x221008) else (none)) else (none)) else (none)) else (none)) else (none))) else (none)) else (flyleaflaw09_DynamicLists.j3 k x7 x8 x14 x221000 x221001 x221002 x221003 x221004 x221005 x221006 x221007 x221008)) else (flyleaflaw09_DynamicLists.j3 k x7 x8 x14 x221000 x221001 x221002 x221003 x221004 x221005 x221006 x221007 x221008)) else (flyleaflaw09_DynamicLists.j3 k x7 x8 x14 x221000 x221001 x221002 x221003 x221004 x221005 x221006 x221007 x221008)
def flyleaflaw09_DynamicLists.l0 : Nat → List Int → List Int → Bool → ByteArray → List ByteArray → List Int → Int → Int → Int → Int → Int → Int → Int → Int → Int → Option (Bool)
  | 0, _, _, _, _, _, _, _, _, _, _, _, _, _, _, _ => none
  | k + 1, x0, x2, x7, x8, x10, x11, x12, x221001, x221002, x221003, x221004, x221005, x221006, x221007, x221008 => if x12 < (x0.length : Int) then (if x12 < 6 then (if 0 ≤ x12 then ((some (([(wrap64 (97 + (Go.bits .and .i64 (rd x0 x12) 7))) % 256, (wrap64 (48 + x12)) % 256] : List Int) : List Int)).bind fun y222 => (if x10.length < 8796093022208 then (if x11.length < 17592186044416 then (if x8.size + (strOfNums y222).size ≤ 9223372036854775807 then (if (x8 ++ (strOfNums y222)).size + 1 ≤ 9223372036854775807 then (flyleaflaw09_DynamicLists.l0 k x0 x2 x7 ((x8 ++ (strOfNums y222)) ++ (⟨#[0]⟩ : ByteArray)) (x10 ++ [strOfNums y222]) (x11 ++ [wrap64 ((x8.size : Int) - x221001)]) (wrap64 (x12 + 1)) x221001 x221002 x221003 x221004 x221005 x221006 x221007 x221008) else (none)) else (none)) else (none)) else (none))) else (none)) else (flyleaflaw09_DynamicLists.j1 k x2 x7 x8 x10 x11 x221001 x221002 x221003 x221004 x221005 x221006 x221007 x221008)) else (flyleaflaw09_DynamicLists.j1 k x2 x7 x8 x10 x11 x221001 x221002 x221003 x221004 x221005 x221006 x221007 x221008)
end
def flyleaflaw09_DynamicLists.f (k : Nat) (l0 : List Int) (a1 : Int) (l2 : List Int) : Option (Bool) := (flyleaflaw09_awake.f).bind fun t218 => ((flyleafref01_Fill.f (⟨#[]⟩ : ByteArray) (Go.bits .and .i64 a1 63)).bind fun t219 => (flyleaflaw09_DynamicLists.l0 k l0 l2 t218 t219 ([] : List ByteArray) ([] : List Int) 0 (t219.size : Int) 0 0 0 0 0 0 0))
theorem flyleaflaw09_DynamicLists.mono_l : ∀ k, (∀ y0 y1 y2 y3 y4 y5 y6 y7 y8 y9 y10 y11 y12, LeO (flyleaflaw09_DynamicLists.j1 k y0 y1 y2 y3 y4 y5 y6 y7 y8 y9 y10 y11 y12) (flyleaflaw09_DynamicLists.j1 (k + 1) y0 y1 y2 y3 y4 y5 y6 y7 y8 y9 y10 y11 y12)) ∧ (∀ y0 y1 y2 y3 y4 y5 y6 y7 y8 y9 y10 y11, LeO (flyleaflaw09_DynamicLists.j3 k y0 y1 y2 y3 y4 y5 y6 y7 y8 y9 y10 y11) (flyleaflaw09_DynamicLists.j3 (k + 1) y0 y1 y2 y3 y4 y5 y6 y7 y8 y9 y10 y11)) ∧ (∀ y0 y1 y2 y3 y4 y5 y6 y7 y8 y9 y10 y11 y12 y13 y14 y15, LeO (flyleaflaw09_DynamicLists.l1 k y0 y1 y2 y3 y4 y5 y6 y7 y8 y9 y10 y11 y12 y13 y14 y15) (flyleaflaw09_DynamicLists.l1 (k + 1) y0 y1 y2 y3 y4 y5 y6 y7 y8 y9 y10 y11 y12 y13 y14 y15)) ∧ (∀ y0 y1 y2 y3 y4 y5 y6 y7 y8 y9 y10 y11 y12 y13 y14, LeO (flyleaflaw09_DynamicLists.l0 k y0 y1 y2 y3 y4 y5 y6 y7 y8 y9 y10 y11 y12 y13 y14) (flyleaflaw09_DynamicLists.l0 (k + 1) y0 y1 y2 y3 y4 y5 y6 y7 y8 y9 y10 y11 y12 y13 y14))
  | 0 => ⟨fun _ _ _ _ _ _ _ _ _ _ _ _ _ r h => by simp [flyleaflaw09_DynamicLists.j1] at h, fun _ _ _ _ _ _ _ _ _ _ _ _ r h => by simp [flyleaflaw09_DynamicLists.j3] at h, fun _ _ _ _ _ _ _ _ _ _ _ _ _ _ _ _ r h => by simp [flyleaflaw09_DynamicLists.l1] at h, fun _ _ _ _ _ _ _ _ _ _ _ _ _ _ _ r h => by simp [flyleaflaw09_DynamicLists.l0] at h⟩
  | k + 1 => by
    obtain ⟨ih0, ih1, ih2, ih3⟩ := flyleaflaw09_DynamicLists.mono_l k
    refine ⟨?_, ?_, ?_, ?_⟩
    · intro y0 y1 y2 y3 y4 y5 y6 y7 y8 y9 y10 y11 y12
      unfold flyleaflaw09_DynamicLists.j1
      repeat' first
      | (with_reducible exact ih0 _ _ _ _ _ _ _ _ _ _ _ _ _)
      | (with_reducible exact ih1 _ _ _ _ _ _ _ _ _ _ _ _)
      | (with_reducible exact ih2 _ _ _ _ _ _ _ _ _ _ _ _ _ _ _ _)
      | (with_reducible exact ih3 _ _ _ _ _ _ _ _ _ _ _ _ _ _ _)
      | (with_reducible exact dynamic_Name.mono _ _ _ _ _ _ _ _ _ _ _ _)
      | (with_reducible exact dynamic_Names.mono _ _ _ _ _ _ _ _ _ _ _)
      | (with_reducible exact flyleafref09_SameTexts.mono _ _ _)
      | (with_reducible exact LeO.refl _)
      | (with_reducible exact LeO.none _)
      | (with_reducible refine LeO.ite ?_ ?_)
      | (with_reducible refine LeO.bind ?_ (fun _ => ?_))
      | exact ih0 _ _ _ _ _ _ _ _ _ _ _ _ _
      | exact ih1 _ _ _ _ _ _ _ _ _ _ _ _
      | exact ih2 _ _ _ _ _ _ _ _ _ _ _ _ _ _ _ _
      | exact ih3 _ _ _ _ _ _ _ _ _ _ _ _ _ _ _
      | exact dynamic_Name.mono _ _ _ _ _ _ _ _ _ _ _ _
      | exact dynamic_Names.mono _ _ _ _ _ _ _ _ _ _ _
      | exact flyleafref09_SameTexts.mono _ _ _
      | exact LeO.none _
      | refine LeO.ite ?_ ?_
      | refine LeO.bind ?_ (fun _ => ?_)
    · intro y0 y1 y2 y3 y4 y5 y6 y7 y8 y9 y10 y11
      unfold flyleaflaw09_DynamicLists.j3
      repeat' first
      | (with_reducible exact ih0 _ _ _ _ _ _ _ _ _ _ _ _ _)
      | (with_reducible exact ih1 _ _ _ _ _ _ _ _ _ _ _ _)
      | (with_reducible exact ih2 _ _ _ _ _ _ _ _ _ _ _ _ _ _ _ _)
      | (with_reducible exact ih3 _ _ _ _ _ _ _ _ _ _ _ _ _ _ _)
      | (with_reducible exact dynamic_Name.mono _ _ _ _ _ _ _ _ _ _ _ _)
      | (with_reducible exact dynamic_Names.mono _ _ _ _ _ _ _ _ _ _ _)
      | (with_reducible exact flyleafref09_SameTexts.mono _ _ _)
      | (with_reducible exact LeO.refl _)
      | (with_reducible exact LeO.none _)
      | (with_reducible refine LeO.ite ?_ ?_)
      | (with_reducible refine LeO.bind ?_ (fun _ => ?_))
      | exact ih0 _ _ _ _ _ _ _ _ _ _ _ _ _
      | exact ih1 _ _ _ _ _ _ _ _ _ _ _ _
      | exact ih2 _ _ _ _ _ _ _ _ _ _ _ _ _ _ _ _
      | exact ih3 _ _ _ _ _ _ _ _ _ _ _ _ _ _ _
      | exact dynamic_Name.mono _ _ _ _ _ _ _ _ _ _ _ _
      | exact dynamic_Names.mono _ _ _ _ _ _ _ _ _ _ _
      | exact flyleafref09_SameTexts.mono _ _ _
      | exact LeO.none _
      | refine LeO.ite ?_ ?_
      | refine LeO.bind ?_ (fun _ => ?_)
    · intro y0 y1 y2 y3 y4 y5 y6 y7 y8 y9 y10 y11 y12 y13 y14 y15
      unfold flyleaflaw09_DynamicLists.l1
      repeat' first
      | (with_reducible exact ih0 _ _ _ _ _ _ _ _ _ _ _ _ _)
      | (with_reducible exact ih1 _ _ _ _ _ _ _ _ _ _ _ _)
      | (with_reducible exact ih2 _ _ _ _ _ _ _ _ _ _ _ _ _ _ _ _)
      | (with_reducible exact ih3 _ _ _ _ _ _ _ _ _ _ _ _ _ _ _)
      | (with_reducible exact dynamic_Name.mono _ _ _ _ _ _ _ _ _ _ _ _)
      | (with_reducible exact dynamic_Names.mono _ _ _ _ _ _ _ _ _ _ _)
      | (with_reducible exact flyleafref09_SameTexts.mono _ _ _)
      | (with_reducible exact LeO.refl _)
      | (with_reducible exact LeO.none _)
      | (with_reducible refine LeO.ite ?_ ?_)
      | (with_reducible refine LeO.bind ?_ (fun _ => ?_))
      | exact ih0 _ _ _ _ _ _ _ _ _ _ _ _ _
      | exact ih1 _ _ _ _ _ _ _ _ _ _ _ _
      | exact ih2 _ _ _ _ _ _ _ _ _ _ _ _ _ _ _ _
      | exact ih3 _ _ _ _ _ _ _ _ _ _ _ _ _ _ _
      | exact dynamic_Name.mono _ _ _ _ _ _ _ _ _ _ _ _
      | exact dynamic_Names.mono _ _ _ _ _ _ _ _ _ _ _
      | exact flyleafref09_SameTexts.mono _ _ _
      | exact LeO.none _
      | refine LeO.ite ?_ ?_
      | refine LeO.bind ?_ (fun _ => ?_)
    · intro y0 y1 y2 y3 y4 y5 y6 y7 y8 y9 y10 y11 y12 y13 y14
      unfold flyleaflaw09_DynamicLists.l0
      repeat' first
      | (with_reducible exact ih0 _ _ _ _ _ _ _ _ _ _ _ _ _)
      | (with_reducible exact ih1 _ _ _ _ _ _ _ _ _ _ _ _)
      | (with_reducible exact ih2 _ _ _ _ _ _ _ _ _ _ _ _ _ _ _ _)
      | (with_reducible exact ih3 _ _ _ _ _ _ _ _ _ _ _ _ _ _ _)
      | (with_reducible exact dynamic_Name.mono _ _ _ _ _ _ _ _ _ _ _ _)
      | (with_reducible exact dynamic_Names.mono _ _ _ _ _ _ _ _ _ _ _)
      | (with_reducible exact flyleafref09_SameTexts.mono _ _ _)
      | (with_reducible exact LeO.refl _)
      | (with_reducible exact LeO.none _)
      | (with_reducible refine LeO.ite ?_ ?_)
      | (with_reducible refine LeO.bind ?_ (fun _ => ?_))
      | exact ih0 _ _ _ _ _ _ _ _ _ _ _ _ _
      | exact ih1 _ _ _ _ _ _ _ _ _ _ _ _
      | exact ih2 _ _ _ _ _ _ _ _ _ _ _ _ _ _ _ _
      | exact ih3 _ _ _ _ _ _ _ _ _ _ _ _ _ _ _
      | exact dynamic_Name.mono _ _ _ _ _ _ _ _ _ _ _ _
      | exact dynamic_Names.mono _ _ _ _ _ _ _ _ _ _ _
      | exact flyleafref09_SameTexts.mono _ _ _
      | exact LeO.none _
      | refine LeO.ite ?_ ?_
      | refine LeO.bind ?_ (fun _ => ?_)
theorem flyleaflaw09_DynamicLists.mono : ∀ a0 a1 a2 k, LeO (flyleaflaw09_DynamicLists.f k a0 a1 a2) (flyleaflaw09_DynamicLists.f (k + 1) a0 a1 a2) := by
  intro a0 a1 a2 k
  obtain ⟨ih0, ih1, ih2, ih3⟩ := flyleaflaw09_DynamicLists.mono_l k
  unfold flyleaflaw09_DynamicLists.f
  repeat' first
      | (with_reducible exact ih0 _ _ _ _ _ _ _ _ _ _ _ _ _)
      | (with_reducible exact ih1 _ _ _ _ _ _ _ _ _ _ _ _)
      | (with_reducible exact ih2 _ _ _ _ _ _ _ _ _ _ _ _ _ _ _ _)
      | (with_reducible exact ih3 _ _ _ _ _ _ _ _ _ _ _ _ _ _ _)
      | (with_reducible exact dynamic_Name.mono _ _ _ _ _ _ _ _ _ _ _ _)
      | (with_reducible exact dynamic_Names.mono _ _ _ _ _ _ _ _ _ _ _)
      | (with_reducible exact flyleafref09_SameTexts.mono _ _ _)
      | (with_reducible exact LeO.refl _)
      | (with_reducible exact LeO.none _)
      | (with_reducible refine LeO.ite ?_ ?_)
      | (with_reducible refine LeO.bind ?_ (fun _ => ?_))
      | exact ih0 _ _ _ _ _ _ _ _ _ _ _ _ _
      | exact ih1 _ _ _ _ _ _ _ _ _ _ _ _
      | exact ih2 _ _ _ _ _ _ _ _ _ _ _ _ _ _ _ _
      | exact ih3 _ _ _ _ _ _ _ _ _ _ _ _ _ _ _
      | exact dynamic_Name.mono _ _ _ _ _ _ _ _ _ _ _ _
      | exact dynamic_Names.mono _ _ _ _ _ _ _ _ _ _ _
      | exact flyleafref09_SameTexts.mono _ _ _
      | exact LeO.none _
      | refine LeO.ite ?_ ?_
      | refine LeO.bind ?_ (fun _ => ?_)
def flyleaflaw09_DynamicLists.T19 : Bool × List (List Nat × List Nat) := (true, [([], []), ([0], [0]), ([], []), ([], []), ([2, 3], [2, 3]), ([4], [4]), ([5], [5]), ([1, 6], [1, 6]), ([0, 1, 2, 3, 4, 5, 6, 7], []), ([8, 7, 7, 0, 1, 2, 3, 4, 5, 6, 7], [7, 8])])
def flyleaflaw09_DynamicLists.B19 : List Nat := [0, 1, 0, 0, 12, 28, 60, 127, 255, 511]
theorem flyleaflaw09_DynamicLists.tab19 : rtab .any (opsOf Try.f13 19) = flyleaflaw09_DynamicLists.T19 := by kernel_rfl
theorem flyleaflaw09_DynamicLists.bits19 : waitsOk flyleaflaw09_DynamicLists.T19.2 flyleaflaw09_DynamicLists.B19 = true := by kernel_rfl
set_option maxHeartbeats 8000000 in
set_option maxRecDepth 100000 in
theorem flyleaflaw09_DynamicLists.calls (k : Nat) (A0 : Option Addr) (c0 : Nat) (l0 : List Int) (a1 : Int) (A2 : Option Addr) (c2 : Nat) (l2 : List Int) (r : Bool) (w : World) (hr0 : Kd.C (Kd.int .i64) w A0 l0.length l0) (hc0 : l0.length ≤ c0) (hr2 : Kd.C (Kd.int .i64) w A2 l2.length l2) (hc2 : l2.length ≤ c2) (h : flyleaflaw09_DynamicLists.f k l0 a1 l2 = some r) :
    Calls Try.prog 13 #[.slice A0 l0.length c0, .int .i64 a1, .slice A2 l2.length c2] w fun e w' => e = .returned (.bool r) ∧ Below w.heap.size w w' := by
  have hu54 := Try.underlying54
  have HR0 := Aside0.mk hr0
  have HC0 := Aside0.mk hc0
  clear hr0 hc0
  have HR2 := Aside0.mk hr2
  have HC2 := Aside0.mk hc2
  clear hr2 hc2
  have HB := Aside0.mk (Below.refl w.heap.size w)
  have H : ((flyleaflaw09_awake.f).bind fun t218 => ((flyleafref01_Fill.f (⟨#[]⟩ : ByteArray) (Go.bits .and .i64 a1 63)).bind fun t219 => (flyleaflaw09_DynamicLists.l0 k l0 l2 t218 t219 ([] : List ByteArray) ([] : List Int) 0 (t219.size : Int) 0 0 0 0 0 0 0))) = some r := h
  clear h
  replace H := Option.bind_eq_some_iff.mp H
  obtain ⟨t218, A40, H⟩ := H
  replace H : ((flyleafref01_Fill.f (⟨#[]⟩ : ByteArray) (Go.bits .and .i64 a1 63)).bind fun t219 => (flyleaflaw09_DynamicLists.l0 k l0 l2 t218 t219 ([] : List ByteArray) ([] : List Int) 0 (t219.size : Int) 0 0 0 0 0 0 0)) = some r := H
  have A4 := Aside0.mk A40
  clear A40
  replace H := Option.bind_eq_some_iff.mp H
  obtain ⟨t219, A50, H⟩ := H
  replace H : (flyleaflaw09_DynamicLists.l0 k l0 l2 t218 t219 ([] : List ByteArray) ([] : List Int) 0 (t219.size : Int) 0 0 0 0 0 0 0) = some r := H
  have A5 := Aside0.mk A50
  clear A50
  have HC6 := Aside0.mk H
  clear H
  go_enter Try.func13, Try.ntmps13
  go_upto_block 0 with (first | ((with_reducible refine gate_callee (f := 47) rfl ?_); refine goesL_ (some 24) rfl rfl Try.func47 (by kernel_rfl) rfl #[] rfl (by (try simp only [List.map_toArray, List.map_cons, List.map_nil]); first | done | rfl | (simp only [List.length_drop, List.length_take]; rfl)) ?_; (with_reducible refine (flyleaflaw09_awake.calls  t218 _ A4.out).mono ?_); rintro e w7 ⟨rfl, hb⟩; refine ⟨_, rfl, ?_⟩; have n0_ := Aside0.mk (below_step (by repeat (first | (with_reducible first | exact HB.out | apply below_alloc | apply pw_below_drewN | apply below_drew1) | exact HB.out)) hb); clear HB; have HB := n0_; clear n0_; (try clear hb); (try clear hb2); (try clear hk); (try clear hi)) | ((with_reducible refine gate_callee (f := 52) rfl ?_); refine goesL_ (some 27) rfl rfl Try.func52 (by kernel_rfl) rfl #[.string (⟨#[]⟩ : ByteArray), .int .i64 (Go.bits .and .i64 a1 63)] rfl (by (try simp only [List.map_toArray, List.map_cons, List.map_nil]); first | done | rfl | (simp only [List.length_drop, List.length_take]; rfl)) ?_; (with_reducible refine (flyleafref01_Fill.calls (⟨#[]⟩ : ByteArray) (Go.bits .and .i64 a1 63) t219 _ A5.out).mono ?_); rintro e w8 ⟨rfl, hb⟩; refine ⟨_, rfl, ?_⟩; have n0_ := Aside0.mk (below_step (by repeat (first | (with_reducible first | exact HB.out | apply below_alloc | apply pw_below_drewN | apply below_drew1) | exact HB.out)) hb); clear HB; have HB := n0_; clear n0_; (try clear hb); (try clear hb2); (try clear hk); (try clear hi)) | ((with_reducible refine gate_dst (N := 9) rfl ?_); (try (refine gate_guard (by rfl) ?_; dsimp only)); refine box_event ?hg (N := 9) ?hd (cs := #[.slice none 0 0, .int .i64 0, .int .i64 0, .int .i64 0, .int .i64 0, .int .i64 0, .int .i64 0, .int .i64 0, .int .i64 0]) (t := 54) ?hr ?_; (case hd => rfl); (case hg => rfl); (case hr => first | (go_simp; done) | (go_simp; rfl)); intro gb220 hg w9 hbox hb; have n0_ := Aside0.mk (below_step (by repeat (first | (with_reducible first | exact HB.out | apply below_alloc | apply pw_below_drewN | apply below_drew1) | exact HB.out)) hb); have n1_ := Aside0.mk (hbox); have n2_ := Aside0.mk ((by rw [hg]; exact (below_size (by repeat (first | (with_reducible first | exact HB.out | apply below_alloc | apply pw_below_drewN | apply below_drew1) | exact HB.out))) : w.heap.size ≤ gb220)); have n3_ := Aside0.mk ((by rw [hg]; exact (below_size (by repeat (first | (with_reducible first | exact HB.out | apply below_alloc | apply pw_below_drewN | apply below_drew1) | exact HB.out))) : w.heap.size ≤ gb220)); clear HB; have HB := n0_; have BK220 := n1_; have GW220 := n2_; have GE220 := n3_; clear n0_ n1_ n2_ n3_; clear hb hbox hg; have hcz10_0 : w9.cell? ⟨gb220, 0, none⟩ = some (.slice none 0 0) := (blk_cell BK220.out 0).trans rfl; have hcz10_1 : w9.cell? ⟨gb220, 1, none⟩ = some (.int .i64 0) := (blk_cell BK220.out 1).trans rfl; have hcz10_2 : w9.cell? ⟨gb220, 2, none⟩ = some (.int .i64 0) := (blk_cell BK220.out 2).trans rfl; have hcz10_3 : w9.cell? ⟨gb220, 3, none⟩ = some (.int .i64 0) := (blk_cell BK220.out 3).trans rfl; have hcz10_4 : w9.cell? ⟨gb220, 4, none⟩ = some (.int .i64 0) := (blk_cell BK220.out 4).trans rfl; have hcz10_5 : w9.cell? ⟨gb220, 5, none⟩ = some (.int .i64 0) := (blk_cell BK220.out 5).trans rfl; have hcz10_6 : w9.cell? ⟨gb220, 6, none⟩ = some (.int .i64 0) := (blk_cell BK220.out 6).trans rfl; have hcz10_7 : w9.cell? ⟨gb220, 7, none⟩ = some (.int .i64 0) := (blk_cell BK220.out 7).trans rfl; have hcz10_8 : w9.cell? ⟨gb220, 8, none⟩ = some (.int .i64 0) := (blk_cell BK220.out 8).trans rfl; have hfz10_0 := blk_frozen BK220.out 0; have hfz10_1 := blk_frozen BK220.out 1; have hfz10_2 := blk_frozen BK220.out 2; have hfz10_3 := blk_frozen BK220.out 3; have hfz10_4 := blk_frozen BK220.out 4; have hfz10_5 := blk_frozen BK220.out 5; have hfz10_6 := blk_frozen BK220.out 6; have hfz10_7 := blk_frozen BK220.out 7; have hfz10_8 := blk_frozen BK220.out 8))
  (try simp only [Act.put, List.setIfInBounds_toArray, List.set_cons_zero, List.set_cons_succ])
  go_cut [8, 10, 11] (fun v8 v10 v11 wc => ∃ (kq : Nat) (x8_5 : ByteArray) (x10_5 : List ByteArray) (x11_5 : List Int), v8 = .string x8_5 ∧ Aside0 (flyleaflaw09_DynamicLists.j1 kq l2 t218 x8_5 x10_5 x11_5 (t219.size : Int) 0 0 0 0 0 0 0 = some r) ∧ Aside0 (kq ≤ k) ∧ Aside0 (Kd.R Kd.string 9 wc w.heap.size (fun _ => True) v10 x10_5) ∧ Aside0 (Kd.R (Kd.int .i64) 3 wc w.heap.size (fun _ => True) v11 x11_5) ∧ Aside0 (wc.heap[gb220]? = some (.cells #[(.slice none 0 0), .int .i64 (t219.size : Int), .int .i64 0, .int .i64 0, .int .i64 0, .int .i64 0, .int .i64 0, .int .i64 0, .int .i64 0] 54 (0, 0))) ∧ Aside0 (Below w.heap.size w wc))
  case first =>
    have H := HC6.out
    clear HC6
    have H' := Aside0.mk H
    clear H
    go_wp2
    go_loopg [8, 10, 11, 12] k (fun kq v8 v10 v11 v12 w' => ∃ (x8_1 : ByteArray) (x10_1 : List ByteArray) (x11_1 : List Int) (x12_1 : Int), v8 = .string x8_1 ∧ v12 = .int .i64 x12_1 ∧ Aside0 (flyleaflaw09_DynamicLists.l0 kq l0 l2 t218 x8_1 x10_1 x11_1 x12_1 (t219.size : Int) 0 0 0 0 0 0 0 = some r) ∧ Aside0 (kq ≤ k) ∧ Aside0 (Kd.R Kd.string 9 w' w.heap.size (fun _ => True) v10 x10_1) ∧ Aside0 (Kd.R (Kd.int .i64) 3 w' w.heap.size (fun _ => True) v11 x11_1) ∧ Aside0 (w'.heap[gb220]? = some (.cells #[(.slice none 0 0), .int .i64 (t219.size : Int), .int .i64 0, .int .i64 0, .int .i64 0, .int .i64 0, .int .i64 0, .int .i64 0, .int .i64 0] 54 (0, 0))) ∧ Aside0 (Below w.heap.size w w'))
    case atStart => exact ⟨(t219), (([] : List ByteArray)), (([] : List Int)), (0), (by first | rfl | (simp; done) | (simp [*]; done)), (by first | rfl | (simp; done) | (simp [*]; done)), H', ⟨Nat.le_refl _⟩, ⟨by first | exact Kd.R_nil _ _ _ _ _ | exact Kd.N_nil _ _ _ _ _ | exact Kd.V_nil _ _ _ _ _ | exact Kd.Q_nil _ _ _ _ _ | exact Kd.S_nil _ _ _ _ _⟩, ⟨by first | exact Kd.R_nil _ _ _ _ _ | exact Kd.N_nil _ _ _ _ _ | exact Kd.V_nil _ _ _ _ _ | exact Kd.Q_nil _ _ _ _ _ | exact Kd.S_nil _ _ _ _ _⟩, ⟨by (with_reducible repeat (first | refine blk_drewN ?_ _ | refine blk_drew ?_ | refine blk_alloc ?_ _)); refine blk_put (cs := #[.slice none 0 0, .int .i64 (t219.size : Int), .int .i64 0, .int .i64 0, .int .i64 0, .int .i64 0, .int .i64 0, .int .i64 0, .int .i64 0]) ?_ 8 _ rfl; (with_reducible repeat (first | refine blk_drewN ?_ _ | refine blk_drew ?_ | refine blk_alloc ?_ _)); refine blk_put (cs := #[.slice none 0 0, .int .i64 (t219.size : Int), .int .i64 0, .int .i64 0, .int .i64 0, .int .i64 0, .int .i64 0, .int .i64 0, .int .i64 0]) ?_ 7 _ rfl; (with_reducible repeat (first | refine blk_drewN ?_ _ | refine blk_drew ?_ | refine blk_alloc ?_ _)); refine blk_put (cs := #[.slice none 0 0, .int .i64 (t219.size : Int), .int .i64 0, .int .i64 0, .int .i64 0, .int .i64 0, .int .i64 0, .int .i64 0, .int .i64 0]) ?_ 6 _ rfl; (with_reducible repeat (first | refine blk_drewN ?_ _ | refine blk_drew ?_ | refine blk_alloc ?_ _)); refine blk_put (cs := #[.slice none 0 0, .int .i64 (t219.size : Int), .int .i64 0, .int .i64 0, .int .i64 0, .int .i64 0, .int .i64 0, .int .i64 0, .int .i64 0]) ?_ 5 _ rfl; (with_reducible repeat (first | refine blk_drewN ?_ _ | refine blk_drew ?_ | refine blk_alloc ?_ _)); refine blk_put (cs := #[.slice none 0 0, .int .i64 (t219.size : Int), .int .i64 0, .int .i64 0, .int .i64 0, .int .i64 0, .int .i64 0, .int .i64 0, .int .i64 0]) ?_ 4 _ rfl; (with_reducible repeat (first | refine blk_drewN ?_ _ | refine blk_drew ?_ | refine blk_alloc ?_ _)); refine blk_put (cs := #[.slice none 0 0, .int .i64 (t219.size : Int), .int .i64 0, .int .i64 0, .int .i64 0, .int .i64 0, .int .i64 0, .int .i64 0, .int .i64 0]) ?_ 3 _ rfl; (with_reducible repeat (first | refine blk_drewN ?_ _ | refine blk_drew ?_ | refine blk_alloc ?_ _)); refine blk_put (cs := #[.slice none 0 0, .int .i64 (t219.size : Int), .int .i64 0, .int .i64 0, .int .i64 0, .int .i64 0, .int .i64 0, .int .i64 0, .int .i64 0]) ?_ 2 _ rfl; (with_reducible repeat (first | refine blk_drewN ?_ _ | refine blk_drew ?_ | refine blk_alloc ?_ _)); refine blk_put (cs := #[.slice none 0 0, .int .i64 0, .int .i64 0, .int .i64 0, .int .i64 0, .int .i64 0, .int .i64 0, .int .i64 0, .int .i64 0]) ?_ 1 _ rfl; (with_reducible repeat (first | refine blk_drewN ?_ _ | refine blk_drew ?_ | refine blk_alloc ?_ _)); refine blk_put (cs := #[.slice none 0 0, .int .i64 0, .int .i64 0, .int .i64 0, .int .i64 0, .int .i64 0, .int .i64 0, .int .i64 0, .int .i64 0]) ?_ 0 _ rfl; (with_reducible repeat (first | refine blk_drewN ?_ _ | refine blk_drew ?_ | refine blk_alloc ?_ _)); exact BK220.out⟩, ⟨by repeat (first | (with_reducible first | exact HB.out | apply below_alloc | apply pw_below_drewN | apply below_drew1 | refine below_set ?_ GE220.out) | exact HB.out)⟩⟩
    case round =>
      clear H'
      try clear c1
      try clear c2
      try clear p2
      try clear c4
      try clear c5
      try clear hcz10_0
      try clear hcz10_1
      try clear hcz10_2
      try clear hcz10_3
      try clear hcz10_4
      try clear hcz10_5
      try clear hcz10_6
      try clear hcz10_7
      try clear hcz10_8
      try clear hfz10_0
      try clear hfz10_1
      try clear hfz10_2
      try clear hfz10_3
      try clear hfz10_4
      try clear hfz10_5
      try clear hfz10_6
      try clear hfz10_7
      try clear hfz10_8
      obtain ⟨x8_1, x10_1, x11_1, x12_1, rfl, rfl, HA, HK1, HO_10, HO_11, BK220, HB⟩ := hrel
      cases gk with
      | zero => exact absurd HA.out (by simp [flyleaflaw09_DynamicLists.l0])
      | succ k1 =>
        have H := HA.out
        clear HA
        simp only [flyleaflaw09_DynamicLists.l0] at H
        by_cases c11 : x12_1 < (l0.length : Int)
        · rw [if_pos c11] at H
          have c11b0 : decide (x12_1 < (l0.length : Int)) = true := decide_eq_true c11
          clear c11
          (first | rw [c11b0] | (simp only [i64_w, i32_w]; rw [c11b0]) | skip)
          by_cases c12 : x12_1 < 6
          · rw [if_pos c12] at H
            have c12b0 : decide (x12_1 < 6) = true := decide_eq_true c12
            clear c12
            by_cases c13 : 0 ≤ x12_1
            · rw [if_pos c13] at H
              have c13b0 : decide (0 ≤ x12_1) = true := decide_eq_true c13
              clear c13
              obtain ⟨y222, hy222⟩ : ∃ y_ : List Int, y_ = (([(wrap64 (97 + (Go.bits .and .i64 (rd l0 x12_1) 7))) % 256, (wrap64 (48 + x12_1)) % 256] : List Int)) := ⟨_, rfl⟩
              replace H : (if x10_1.length < 8796093022208 then (if x11_1.length < 17592186044416 then (if x8_1.size + (strOfNums y222).size ≤ 9223372036854775807 then (if (x8_1 ++ (strOfNums y222)).size + 1 ≤ 9223372036854775807 then (flyleaflaw09_DynamicLists.l0 k1 l0 l2 t218 ((x8_1 ++ (strOfNums y222)) ++ (⟨#[0]⟩ : ByteArray)) (x10_1 ++ [strOfNums y222]) (x11_1 ++ [wrap64 ((x8_1.size : Int) - (t219.size : Int))]) (wrap64 (x12_1 + 1)) (t219.size : Int) 0 0 0 0 0 0 0) else (none)) else (none)) else (none)) else (none)) = some r := by first | (rw [hy222]; with_reducible exact H) | (have H2_ := (Option.bind_some _ _).symm.trans H; rw [hy222]; with_reducible exact H2_) | (have H2_ := (Option.bind_some _ _).symm.trans H; with_reducible exact H2_) | with_reducible exact H | (rw [hy222]; exact H) | exact H
              have Ny222 := Aside0.mk hy222
              clear hy222
              by_cases c14 : x10_1.length < 8796093022208
              · rw [if_pos c14] at H
                have LMc14 := Aside0.mk c14
                clear c14
                obtain ⟨y225, hy225⟩ : ∃ y_ : List ByteArray, y_ = (x10_1 ++ [strOfNums y222]) := ⟨_, rfl⟩
                replace H : (if x11_1.length < 17592186044416 then (if x8_1.size + (strOfNums y222).size ≤ 9223372036854775807 then (if (x8_1 ++ (strOfNums y222)).size + 1 ≤ 9223372036854775807 then (flyleaflaw09_DynamicLists.l0 k1 l0 l2 t218 ((x8_1 ++ (strOfNums y222)) ++ (⟨#[0]⟩ : ByteArray)) y225 (x11_1 ++ [wrap64 ((x8_1.size : Int) - (t219.size : Int))]) (wrap64 (x12_1 + 1)) (t219.size : Int) 0 0 0 0 0 0 0) else (none)) else (none)) else (none)) = some r := by first | (rw [hy225]; with_reducible exact H) | (have H2_ := (Option.bind_some _ _).symm.trans H; rw [hy225]; with_reducible exact H2_) | (have H2_ := (Option.bind_some _ _).symm.trans H; with_reducible exact H2_) | with_reducible exact H | (rw [hy225]; exact H) | exact H
                have Ny225 := Aside0.mk hy225
                clear hy225
                by_cases c15 : x11_1.length < 17592186044416
                · rw [if_pos c15] at H
                  have LMc15 := Aside0.mk c15
                  clear c15
                  obtain ⟨y228, hy228⟩ : ∃ y_ : List Int, y_ = (x11_1 ++ [wrap64 ((x8_1.size : Int) - (t219.size : Int))]) := ⟨_, rfl⟩
                  replace H : (if x8_1.size + (strOfNums y222).size ≤ 9223372036854775807 then (if (x8_1 ++ (strOfNums y222)).size + 1 ≤ 9223372036854775807 then (flyleaflaw09_DynamicLists.l0 k1 l0 l2 t218 ((x8_1 ++ (strOfNums y222)) ++ (⟨#[0]⟩ : ByteArray)) y225 y228 (wrap64 (x12_1 + 1)) (t219.size : Int) 0 0 0 0 0 0 0) else (none)) else (none)) = some r := by first | (rw [hy228]; with_reducible exact H) | (have H2_ := (Option.bind_some _ _).symm.trans H; rw [hy228]; with_reducible exact H2_) | (have H2_ := (Option.bind_some _ _).symm.trans H; with_reducible exact H2_) | with_reducible exact H | (rw [hy228]; exact H) | exact H
                  have Ny228 := Aside0.mk hy228
                  clear hy228
                  by_cases c16 : x8_1.size + (strOfNums y222).size ≤ 9223372036854775807
                  · rw [if_pos c16] at H
                    have c16b0 := eq_true c16
                    have c16b1 : decide (x8_1.size + (strOfNums y222).size ≤ 9223372036854775807) = true := decide_eq_true c16
                    try have c16b2 : (9223372036854775807 < x8_1.size + (strOfNums y222).size) = False := eq_false (Nat.not_lt.2 c16)
                    by_cases c17 : (x8_1 ++ (strOfNums y222)).size + 1 ≤ 9223372036854775807
                    · rw [if_pos c17] at H
                      have c17b0 := eq_true c17
                      have c17b1 : decide ((x8_1 ++ (strOfNums y222)).size + 1 ≤ 9223372036854775807) = true := decide_eq_true c17
                      try have c17b2 : (9223372036854775807 < (x8_1 ++ (strOfNums y222)).size + 1) = False := eq_false (Nat.not_lt.2 c17)
                      have c17s2 : (9223372036854775807 < x8_1.size + (strOfNums y222).size + 1) = False := eq_false (by have h_ := c17; simp only [ByteArray.size_append] at h_; omega)
                      have H' := Aside0.mk H
                      clear H
                      have p221 : 0 ≤ (x12_1 : Int) := of_decide_eq_true (by first | (with_reducible assumption) | assumption)
                      have q221 : x12_1 < (l0.length : Int) := of_decide_eq_true (by first | (with_reducible assumption) | assumption)
                      obtain ⟨ad221, e221, hx221_0⟩ := Kd.at_int HR0.out x12_1 p221 q221
                      cases e221
                      replace hx221_0 := (HB.out.cell (World.block_lt_of_cell? w _ hx221_0)).trans hx221_0
                      replace p221 := eq_true p221
                      replace q221 := eq_true q221
                      go_wp2_with (first | ((with_reducible refine gate_dst (N := 51) rfl ?_); (try (refine gate_guard (by rfl) ?_; dsimp only)); refine Kd.R_lit (Kd.int .u8) _ 5 ?hg (N := 51) ?hd (xs := ([(wrap64 (97 + (Go.bits .and .i64 (rd l0 x12_1) 7))) % 256, (wrap64 (48 + x12_1)) % 256] : List Int)) (inner := [.int .u8 ((wrap64 (97 + (Go.bits .and .i64 (rd l0 x12_1) 7))) % 256), .int .u8 ((wrap64 (48 + x12_1)) % 256)]) (ok := fun _ => True) (okp := fun _ => True) ?hr ?hp (fun _ hk => hk) trivial (Below.refl _ _) (Nat.le_refl _) (by simp) ?_; (case hd => rfl); (case hg => rfl); (case hr => first | (go_simp; done) | (go_simp; rfl)); (case hp => exact (Reps.one (show Kd.M (Kd.int .u8) _ _ _ ((wrap64 (97 + (Go.bits .and .i64 (rd l0 x12_1) 7))) % 256) [.int .u8 ((wrap64 (97 + (Go.bits .and .i64 (rd l0 x12_1) 7))) % 256)] from rfl) (Reps.one (show Kd.M (Kd.int .u8) _ _ _ ((wrap64 (48 + x12_1)) % 256) [.int .u8 ((wrap64 (48 + x12_1)) % 256)] from rfl) (Reps.none _ _)))); intro v223 w18 ho19 hb hg_ hnew_; clear hg_ hnew_; (first | rw [← Ny222.out] at ho19 | (simp only [Int.reduceToNat] at ho19; rw [← Ny222.out] at ho19)); have n0_ := Aside0.mk (Kd.R_below (by (with_reducible repeat (first | apply Kd.R_alloc | apply Kd.R_drewN | apply Kd.R_drew)); exact HO_10.out) hb); have n1_ := Aside0.mk (Kd.R_below (by (with_reducible repeat (first | apply Kd.R_alloc | apply Kd.R_drewN | apply Kd.R_drew)); exact HO_11.out) hb); have n2_ := Aside0.mk (Kd.R_lower ho19 (below_size (by repeat (first | (with_reducible first | exact HB.out | apply below_alloc | apply pw_below_drewN | apply below_drew1 | refine below_set ?_ GE220.out) | exact HB.out)))); have n3_ := Aside0.mk (blk_below (g := gb220) (o := .cells #[.slice none 0 0, .int .i64 (t219.size : Int), .int .i64 0, .int .i64 0, .int .i64 0, .int .i64 0, .int .i64 0, .int .i64 0, .int .i64 0] 54 (0, 0)) (by (with_reducible repeat (first | refine blk_drewN ?_ _ | refine blk_drew ?_ | refine blk_alloc ?_ _)); exact BK220.out) hb); have n4_ := Aside0.mk (below_step (by repeat (first | (with_reducible first | exact HB.out | apply below_alloc | apply pw_below_drewN | apply below_drew1 | refine below_set ?_ GE220.out) | exact HB.out)) hb); clear HO_10; clear HO_11; clear BK220; clear HB; have HO_10 := n0_; have HO_11 := n1_; have HO224 := n2_; have BK220 := n3_; have HB := n4_; clear n0_ n1_ n2_ n3_ n4_; clear hb ho19; have hcv20 := own_string (P := Try.prog) Try.underlying96 Try.underlying5 Try.underlying9 (Kd.own_of_R HO224.out)) | ((with_reducible refine gate_builtin (b := .append) (xs := #[.tmp 53, .tmp 55]) rfl ?_); (try (refine gate_guard (by rfl) ?_; dsimp only)); at_builtin; refine Kd.R_append Kd.string (w0 := w) w.heap.size rfl (.tmp 53) (.tmp 55) 50 9 (.string ⟨#[]⟩) 16 rfl Try.underlying50 info9 rfl (by decide) (by omega) u10 x10_1 (strOfNums y222) [.string (strOfNums y222)] (fun _ => True) (fun _ => False) rfl rfl ?aP (fun _ hk => hk.elim) ?aF ?aO ?aB ?aS ?aL ?_; (case aP => exact rfl); (case aB => exact (by repeat (first | (with_reducible first | exact HB.out | apply below_alloc | apply pw_below_drewN | apply below_drew1 | refine below_set ?_ GE220.out) | exact HB.out))); (case aF => exact (fun _ _ => trivial)); (case aO => exact (by (with_reducible repeat (first | apply Kd.R_alloc | apply Kd.R_drewN | apply Kd.R_drew)); exact HO_10.out)); (case aS => exact (below_size (by repeat (first | (with_reducible first | exact HB.out | apply below_alloc | apply pw_below_drewN | apply below_drew1 | refine below_set ?_ GE220.out) | exact HB.out)))); (case aL => have := LMc14.out; omega); intro v226 w21 ho hb hg hat; rw [← Ny225.out] at ho; have n0_ := Aside0.mk (Kd.R_over' (by (with_reducible repeat (first | apply Kd.R_alloc | apply Kd.R_drewN | apply Kd.R_drew)); exact HO_11.out) (Kd.R_typed (by (with_reducible repeat (first | apply Kd.R_alloc | apply Kd.R_drewN | apply Kd.R_drew)); exact HO_10.out)) (by decide) hg); have n1_ := Aside0.mk (blk_grown (g := gb220) (o := .cells #[.slice none 0 0, .int .i64 (t219.size : Int), .int .i64 0, .int .i64 0, .int .i64 0, .int .i64 0, .int .i64 0, .int .i64 0, .int .i64 0] 54 (0, 0)) (by (with_reducible repeat (first | refine blk_drewN ?_ _ | refine blk_drew ?_ | refine blk_alloc ?_ _)); exact BK220.out) hg (Kd.R_ne HO_10.out BK220.out (by decide))); have n2_ := Aside0.mk (Kd.R_over' (by (with_reducible repeat (first | apply Kd.R_alloc | apply Kd.R_drewN | apply Kd.R_drew)); exact HO224.out) (Kd.R_typed (by (with_reducible repeat (first | apply Kd.R_alloc | apply Kd.R_drewN | apply Kd.R_drew)); exact HO_10.out)) (by decide) hg); have n3_ := Aside0.mk (hb); have n4_ := Aside0.mk (ho); clear HO_11; clear BK220; clear HO224; clear HB; clear HO_10; have HO_11 := n0_; have BK220 := n1_; have HO224 := n2_; have HB := n3_; have HO227 := n4_; clear n0_ n1_ n2_ n3_ n4_; clear ho hb hg hat; have hcz22_0 : w21.cell? ⟨gb220, 0, none⟩ = some (.slice none 0 0) := (blk_cell BK220.out 0).trans rfl; have hcz22_1 : w21.cell? ⟨gb220, 1, none⟩ = some (.int .i64 (t219.size : Int)) := (blk_cell BK220.out 1).trans rfl; have hcz22_2 : w21.cell? ⟨gb220, 2, none⟩ = some (.int .i64 0) := (blk_cell BK220.out 2).trans rfl; have hcz22_3 : w21.cell? ⟨gb220, 3, none⟩ = some (.int .i64 0) := (blk_cell BK220.out 3).trans rfl; have hcz22_4 : w21.cell? ⟨gb220, 4, none⟩ = some (.int .i64 0) := (blk_cell BK220.out 4).trans rfl; have hcz22_5 : w21.cell? ⟨gb220, 5, none⟩ = some (.int .i64 0) := (blk_cell BK220.out 5).trans rfl; have hcz22_6 : w21.cell? ⟨gb220, 6, none⟩ = some (.int .i64 0) := (blk_cell BK220.out 6).trans rfl; have hcz22_7 : w21.cell? ⟨gb220, 7, none⟩ = some (.int .i64 0) := (blk_cell BK220.out 7).trans rfl; have hcz22_8 : w21.cell? ⟨gb220, 8, none⟩ = some (.int .i64 0) := (blk_cell BK220.out 8).trans rfl; have hfz22_0 := blk_frozen BK220.out 0; have hfz22_1 := blk_frozen BK220.out 1; have hfz22_2 := blk_frozen BK220.out 2; have hfz22_3 := blk_frozen BK220.out 3; have hfz22_4 := blk_frozen BK220.out 4; have hfz22_5 := blk_frozen BK220.out 5; have hfz22_6 := blk_frozen BK220.out 6; have hfz22_7 := blk_frozen BK220.out 7; have hfz22_8 := blk_frozen BK220.out 8) | ((with_reducible refine gate_builtin (b := .append) (xs := #[.tmp 57, .tmp 63]) rfl ?_); (try (refine gate_guard (by rfl) ?_; dsimp only)); at_builtin; refine Kd.R_append (Kd.int .i64) (w0 := w) w.heap.size rfl (.tmp 57) (.tmp 63) 25 3 (.int .i64 0) 8 rfl Try.underlying25 info3 rfl (by decide) (by omega) u11 x11_1 (wrap64 ((x8_1.size : Int) - (t219.size : Int))) [.int .i64 (wrap64 ((x8_1.size : Int) - (t219.size : Int)))] (fun _ => True) (fun _ => False) rfl rfl ?aP (fun _ hk => hk.elim) ?aF ?aO ?aB ?aS ?aL ?_; (case aP => exact rfl); (case aB => exact (by repeat (first | (with_reducible first | exact HB.out | apply below_alloc | apply pw_below_drewN | apply below_drew1 | refine below_set ?_ GE220.out) | exact HB.out))); (case aF => exact (fun _ _ => trivial)); (case aO => exact (by (with_reducible repeat (first | apply Kd.R_alloc | apply Kd.R_drewN | apply Kd.R_drew)); exact HO_11.out)); (case aS => exact (below_size (by repeat (first | (with_reducible first | exact HB.out | apply below_alloc | apply pw_below_drewN | apply below_drew1 | refine below_set ?_ GE220.out) | exact HB.out)))); (case aL => have := LMc15.out; omega); intro v229 w23 ho hb hg hat; rw [← Ny228.out] at ho; have n0_ := Aside0.mk (blk_grown (g := gb220) (o := .cells #[.slice none 0 0, .int .i64 (t219.size : Int), .int .i64 0, .int .i64 0, .int .i64 0, .int .i64 0, .int .i64 0, .int .i64 0, .int .i64 0] 54 (0, 0)) (by (with_reducible repeat (first | refine blk_drewN ?_ _ | refine blk_drew ?_ | refine blk_alloc ?_ _)); exact BK220.out) hg (Kd.R_ne HO_11.out BK220.out (by decide))); have n1_ := Aside0.mk (Kd.R_over' (by (with_reducible repeat (first | apply Kd.R_alloc | apply Kd.R_drewN | apply Kd.R_drew)); exact HO224.out) (Kd.R_typed (by (with_reducible repeat (first | apply Kd.R_alloc | apply Kd.R_drewN | apply Kd.R_drew)); exact HO_11.out)) (by decide) hg); have n2_ := Aside0.mk (Kd.R_over' (by (with_reducible repeat (first | apply Kd.R_alloc | apply Kd.R_drewN | apply Kd.R_drew)); exact HO227.out) (Kd.R_typed (by (with_reducible repeat (first | apply Kd.R_alloc | apply Kd.R_drewN | apply Kd.R_drew)); exact HO_11.out)) (by decide) hg); have n3_ := Aside0.mk (hb); have n4_ := Aside0.mk (ho); clear BK220; clear HO224; clear HO227; clear HB; clear HO_11; have BK220 := n0_; have HO224 := n1_; have HO227 := n2_; have HB := n3_; have HO230 := n4_; clear n0_ n1_ n2_ n3_ n4_; clear ho hb hg hat))
                      go_roundg k1
                      case measure => have := HK1.out; omega
                      case rel => exact ⟨((x8_1 ++ (strOfNums y222)) ++ (⟨#[0]⟩ : ByteArray)), (y225), (y228), (wrap64 (x12_1 + 1)), (by first | rfl | (simp; done) | (simp [*]; done)), (by first | rfl | (simp; done) | (simp [*]; done)), H', ⟨by have := HK1.out; omega⟩, ⟨by (with_reducible repeat (first | apply Kd.R_alloc | apply Kd.R_drewN | apply Kd.R_drew)); exact HO227.out⟩, ⟨by (with_reducible repeat (first | apply Kd.R_alloc | apply Kd.R_drewN | apply Kd.R_drew)); exact HO230.out⟩, ⟨by (with_reducible repeat (first | refine blk_drewN ?_ _ | refine blk_drew ?_ | refine blk_alloc ?_ _)); exact BK220.out⟩, ⟨by repeat (first | (with_reducible first | exact HB.out | apply below_alloc | apply pw_below_drewN | apply below_drew1 | refine below_set ?_ GE220.out) | exact HB.out)⟩⟩
                    · rw [if_neg c17] at H
                      exact absurd H (by simp)
                  · rw [if_neg c16] at H
                    exact absurd H (by simp)
                · rw [if_neg c15] at H
                  exact absurd H (by simp)
              · rw [if_neg c14] at H
                exact absurd H (by simp)
            · rw [if_neg c13] at H
              exact absurd H (by simp)
          · rw [if_neg c12] at H
            have c12b0 : decide (x12_1 < 6) = false := decide_eq_false c12
            clear c12
            have H' := Aside0.mk H
            clear H
            go_wp2
            go_meet
            case rel => exact ⟨_, (x8_1), (x10_1), (x11_1), (by first | rfl | (simp; done) | (simp [*]; done)), H', ⟨by have := HK1.out; first | omega | exact Nat.le_refl _⟩, ⟨by (with_reducible repeat (first | apply Kd.R_alloc | apply Kd.R_drewN | apply Kd.R_drew)); exact HO_10.out⟩, ⟨by (with_reducible repeat (first | apply Kd.R_alloc | apply Kd.R_drewN | apply Kd.R_drew)); exact HO_11.out⟩, ⟨by (with_reducible repeat (first | refine blk_drewN ?_ _ | refine blk_drew ?_ | refine blk_alloc ?_ _)); exact BK220.out⟩, ⟨by repeat (first | (with_reducible first | exact HB.out | apply below_alloc | apply pw_below_drewN | apply below_drew1 | refine below_set ?_ GE220.out) | exact HB.out)⟩⟩
        · rw [if_neg c11] at H
          have c11b0 : decide (x12_1 < (l0.length : Int)) = false := decide_eq_false c11
          clear c11
          (first | rw [c11b0] | (simp only [i64_w, i32_w]; rw [c11b0]) | skip)
          have H' := Aside0.mk H
          clear H
          go_wp2
          go_meet
          case rel => exact ⟨_, (x8_1), (x10_1), (x11_1), (by first | rfl | (simp; done) | (simp [*]; done)), H', ⟨by have := HK1.out; first | omega | exact Nat.le_refl _⟩, ⟨by (with_reducible repeat (first | apply Kd.R_alloc | apply Kd.R_drewN | apply Kd.R_drew)); exact HO_10.out⟩, ⟨by (with_reducible repeat (first | apply Kd.R_alloc | apply Kd.R_drewN | apply Kd.R_drew)); exact HO_11.out⟩, ⟨by (with_reducible repeat (first | refine blk_drewN ?_ _ | refine blk_drew ?_ | refine blk_alloc ?_ _)); exact BK220.out⟩, ⟨by repeat (first | (with_reducible first | exact HB.out | apply below_alloc | apply pw_below_drewN | apply below_drew1 | refine below_set ?_ GE220.out) | exact HB.out)⟩⟩
  case rest =>
    clear HC6
    try clear c1
    try clear c2
    try clear p2
    try clear q2
    try clear hx2
    try clear hcv2
    try clear c4
    try clear c5
    try clear p6
    try clear c11
    try clear c11b0
    try clear c12
    try clear c12b0
    try clear c13
    try clear c13b0
    try clear c14
    try clear c15
    try clear c16
    try clear c16b0
    try clear c16b1
    try clear c16b2
    try clear c17
    try clear c17b0
    try clear c17b1
    try clear c17b2
    try clear hcv20
    try clear p22
    try clear q22
    try clear hx22
    try clear hcz10_0
    try clear hcz10_1
    try clear hcz10_2
    try clear hcz10_3
    try clear hcz10_4
    try clear hcz10_5
    try clear hcz10_6
    try clear hcz10_7
    try clear hcz10_8
    try clear hcz22_0
    try clear hcz22_1
    try clear hcz22_2
    try clear hcz22_3
    try clear hcz22_4
    try clear hcz22_5
    try clear hcz22_6
    try clear hcz22_7
    try clear hcz22_8
    try clear hfz10_0
    try clear hfz10_1
    try clear hfz10_2
    try clear hfz10_3
    try clear hfz10_4
    try clear hfz10_5
    try clear hfz10_6
    try clear hfz10_7
    try clear hfz10_8
    try clear hfz22_0
    try clear hfz22_1
    try clear hfz22_2
    try clear hfz22_3
    try clear hfz22_4
    try clear hfz22_5
    try clear hfz22_6
    try clear hfz22_7
    try clear hfz22_8
    try clear hx221_0
    try clear p2
    try clear p221
    try clear q221
    obtain ⟨kq, x8_5, x10_5, x11_5, rfl, HA, HJ5, HO_10, HO_11, BK220, HB⟩ := hcut
    cases kq with
    | zero => exact absurd HA.out (by simp [flyleaflaw09_DynamicLists.j1])
    | succ kj5 =>
      have H := HA.out
      clear HA
      simp only [flyleaflaw09_DynamicLists.j1] at H
      have HC24 := Aside0.mk H
      clear H
      have hcz25_0 : wc.cell? ⟨gb220, 0, none⟩ = some (.slice none 0 0) := (blk_cell BK220.out 0).trans rfl
      have hcz25_1 : wc.cell? ⟨gb220, 1, none⟩ = some (.int .i64 (t219.size : Int)) := (blk_cell BK220.out 1).trans rfl
      have hcz25_2 : wc.cell? ⟨gb220, 2, none⟩ = some (.int .i64 0) := (blk_cell BK220.out 2).trans rfl
      have hcz25_3 : wc.cell? ⟨gb220, 3, none⟩ = some (.int .i64 0) := (blk_cell BK220.out 3).trans rfl
      have hcz25_4 : wc.cell? ⟨gb220, 4, none⟩ = some (.int .i64 0) := (blk_cell BK220.out 4).trans rfl
      have hcz25_5 : wc.cell? ⟨gb220, 5, none⟩ = some (.int .i64 0) := (blk_cell BK220.out 5).trans rfl
      have hcz25_6 : wc.cell? ⟨gb220, 6, none⟩ = some (.int .i64 0) := (blk_cell BK220.out 6).trans rfl
      have hcz25_7 : wc.cell? ⟨gb220, 7, none⟩ = some (.int .i64 0) := (blk_cell BK220.out 7).trans rfl
      have hcz25_8 : wc.cell? ⟨gb220, 8, none⟩ = some (.int .i64 0) := (blk_cell BK220.out 8).trans rfl
      have hfz25_0 := blk_frozen BK220.out 0
      have hfz25_1 := blk_frozen BK220.out 1
      have hfz25_2 := blk_frozen BK220.out 2
      have hfz25_3 := blk_frozen BK220.out 3
      have hfz25_4 := blk_frozen BK220.out 4
      have hfz25_5 := blk_frozen BK220.out 5
      have hfz25_6 := blk_frozen BK220.out 6
      have hfz25_7 := blk_frozen BK220.out 7
      have hfz25_8 := blk_frozen BK220.out 8
      go_upto_block 2 with (fail)
      go_cut [14] (fun v14 wc => ∃ (kq : Nat) (x14_23 : List ByteArray) (x221000_23 : List Int) (u221000 : Value), Aside0 (flyleaflaw09_DynamicLists.j3 kq t218 x8_5 x14_23 x221000_23 (t219.size : Int) (wrap64 ((x8_5.size : Int) - (t219.size : Int))) 0 0 0 0 0 0 = some r) ∧ Aside0 (kq ≤ kj5) ∧ Aside0 (Kd.R Kd.string 9 wc w.heap.size (fun _ => True) v14 x14_23) ∧ Aside0 (Kd.R (Kd.int .i64) 3 wc w.heap.size (fun _ => True) u221000 x221000_23) ∧ Aside0 (wc.heap[gb220]? = some (.cells #[u221000, .int .i64 (t219.size : Int), .int .i64 (wrap64 ((x8_5.size : Int) - (t219.size : Int))), .int .i64 0, .int .i64 0, .int .i64 0, .int .i64 0, .int .i64 0, .int .i64 0] 54 (0, 0))) ∧ Aside0 (Below w.heap.size w wc))
      case first =>
        have H := HC24.out
        clear HC24
        have H' := Aside0.mk H
        clear H
        go_wp2
        go_loopg [14, 15] kj5 (fun kq v14 v15 w' => ∃ (x14_2 : List ByteArray) (x15_2 : Int) (x221000_2 : List Int) (u221000 : Value), v15 = .int .i64 x15_2 ∧ Aside0 (flyleaflaw09_DynamicLists.l1 kq l2 t218 x8_5 x10_5 x11_5 x14_2 x15_2 x221000_2 (t219.size : Int) (wrap64 ((x8_5.size : Int) - (t219.size : Int))) 0 0 0 0 0 0 = some r) ∧ Aside0 (kq ≤ kj5) ∧ Aside0 (Kd.R Kd.string 9 w' w.heap.size (fun k_ => some k_ ≠ (v14 : Value).ownBlock) u10 x10_5) ∧ Aside0 (Kd.R (Kd.int .i64) 3 w' w.heap.size (fun k_ => some k_ ≠ (u221000 : Value).ownBlock) u11 x11_5) ∧ Aside0 (Kd.R Kd.string 9 w' w.heap.size (fun k_ => some k_ ≠ (u10 : Value).ownBlock) v14 x14_2) ∧ Aside0 (Kd.R (Kd.int .i64) 3 w' w.heap.size (fun k_ => some k_ ≠ (u11 : Value).ownBlock) u221000 x221000_2) ∧ Aside0 (w'.heap[gb220]? = some (.cells #[u221000, .int .i64 (t219.size : Int), .int .i64 (wrap64 ((x8_5.size : Int) - (t219.size : Int))), .int .i64 0, .int .i64 0, .int .i64 0, .int .i64 0, .int .i64 0, .int .i64 0] 54 (0, 0))) ∧ Aside0 (Below w.heap.size w w'))
        case atStart => exact ⟨(([] : List ByteArray)), (0), (([] : List Int)), (.slice none 0 0), (by first | rfl | (simp; done) | (simp [*]; done)), H', ⟨Nat.le_refl _⟩, ⟨by (with_reducible repeat (first | apply Kd.R_alloc | apply Kd.R_drewN | apply Kd.R_drew)); exact Kd.R_mono (Kd.R_far (p := ⟨gb220, 2, none⟩) (Kd.R_types HO_10.out BK220.out (by decide)) (fun _ hk => hk.2) (.int .i64 (wrap64 ((x8_5.size : Int) - (t219.size : Int))))) (fun _ hk => (by simp [Value.ownBlock]))⟩, ⟨by (with_reducible repeat (first | apply Kd.R_alloc | apply Kd.R_drewN | apply Kd.R_drew)); exact Kd.R_mono (Kd.R_far (p := ⟨gb220, 2, none⟩) (Kd.R_types HO_11.out BK220.out (by decide)) (fun _ hk => hk.2) (.int .i64 (wrap64 ((x8_5.size : Int) - (t219.size : Int))))) (fun _ hk => (by simp [Value.ownBlock]))⟩, ⟨by first | exact Kd.R_nil _ _ _ _ _ | exact Kd.N_nil _ _ _ _ _ | exact Kd.V_nil _ _ _ _ _ | exact Kd.Q_nil _ _ _ _ _ | exact Kd.S_nil _ _ _ _ _⟩, ⟨by first | exact Kd.R_nil _ _ _ _ _ | exact Kd.N_nil _ _ _ _ _ | exact Kd.V_nil _ _ _ _ _ | exact Kd.Q_nil _ _ _ _ _ | exact Kd.S_nil _ _ _ _ _⟩, ⟨by (with_reducible repeat (first | refine blk_drewN ?_ _ | refine blk_drew ?_ | refine blk_alloc ?_ _)); refine blk_put (cs := #[.slice none 0 0, .int .i64 (t219.size : Int), .int .i64 0, .int .i64 0, .int .i64 0, .int .i64 0, .int .i64 0, .int .i64 0, .int .i64 0]) ?_ 2 _ rfl; (with_reducible repeat (first | refine blk_drewN ?_ _ | refine blk_drew ?_ | refine blk_alloc ?_ _)); exact BK220.out⟩, ⟨by repeat (first | (with_reducible first | exact HB.out | apply below_alloc | apply pw_below_drewN | apply below_drew1 | refine below_set ?_ GE220.out) | exact HB.out)⟩⟩
        case round =>
          clear H'
          try clear c1
          try clear c2
          try clear p2
          try clear q2
          try clear hx2
          try clear hcv2
          try clear c4
          try clear c5
          try clear p6
          try clear c11
          try clear c11b0
          try clear c12
          try clear c12b0
          try clear c13
          try clear c13b0
          try clear c14
          try clear c15
          try clear c16
          try clear c16b0
          try clear c16b1
          try clear c16b2
          try clear c17
          try clear c17b0
          try clear c17b1
          try clear c17b2
          try clear hcv20
          try clear p22
          try clear q22
          try clear hx22
          try clear hcz10_0
          try clear hcz10_1
          try clear hcz10_2
          try clear hcz10_3
          try clear hcz10_4
          try clear hcz10_5
          try clear hcz10_6
          try clear hcz10_7
          try clear hcz10_8
          try clear hcz22_0
          try clear hcz22_1
          try clear hcz22_2
          try clear hcz22_3
          try clear hcz22_4
          try clear hcz22_5
          try clear hcz22_6
          try clear hcz22_7
          try clear hcz22_8
          try clear hcz25_0
          try clear hcz25_1
          try clear hcz25_2
          try clear hcz25_3
          try clear hcz25_4
          try clear hcz25_5
          try clear hcz25_6
          try clear hcz25_7
          try clear hcz25_8
          try clear hfz10_0
          try clear hfz10_1
          try clear hfz10_2
          try clear hfz10_3
          try clear hfz10_4
          try clear hfz10_5
          try clear hfz10_6
          try clear hfz10_7
          try clear hfz10_8
          try clear hfz22_0
          try clear hfz22_1
          try clear hfz22_2
          try clear hfz22_3
          try clear hfz22_4
          try clear hfz22_5
          try clear hfz22_6
          try clear hfz22_7
          try clear hfz22_8
          try clear hfz25_0
          try clear hfz25_1
          try clear hfz25_2
          try clear hfz25_3
          try clear hfz25_4
          try clear hfz25_5
          try clear hfz25_6
          try clear hfz25_7
          try clear hfz25_8
          try clear hx221_0
          try clear p2
          try clear p22
          try clear p221
          try clear p6
          try clear q2
          try clear q22
          try clear q221
          obtain ⟨x14_2, x15_2, x221000_2, u221000, rfl, HA, HK2, HO_10, HO_11, HO_14, HO_221000, BK220, HB⟩ := hrel
          cases gk with
          | zero => exact absurd HA.out (by simp [flyleaflaw09_DynamicLists.l1])
          | succ k2 =>
            have H := HA.out
            clear HA
            simp only [flyleaflaw09_DynamicLists.l1] at H
            by_cases c26 : x15_2 < (l2.length : Int)
            · rw [if_pos c26] at H
              have c26b0 : decide (x15_2 < (l2.length : Int)) = true := decide_eq_true c26
              clear c26
              (first | rw [c26b0] | (simp only [i64_w, i32_w]; rw [c26b0]) | skip)
              by_cases c27 : x15_2 < 8
              · rw [if_pos c27] at H
                have c27b0 : decide (x15_2 < 8) = true := decide_eq_true c27
                clear c27
                by_cases c28 : (x10_5.length : Int) > 0
                · rw [if_pos c28] at H
                  have c28b0 : decide (0 < (x10_5.length : Int)) = true := decide_eq_true c28
                  have c28b1 : decide (0 < x10_5.length) = true := decide_eq_true (by omega)
                  clear c28
                  by_cases c29 : 0 ≤ x15_2
                  · rw [if_pos c29] at H
                    have c29b0 : decide (0 ≤ x15_2) = true := decide_eq_true c29
                    clear c29
                    by_cases c30 : (x10_5.length : Int) = 0
                    · rw [if_pos c30] at H
                      exact absurd H (by simp)
                    · rw [if_neg c30] at H
                      have c30b0 : ((x10_5.length : Int) == 0) = false := beq_eq_false_iff_ne.mpr c30
                      have c30b1 : ((x10_5.length : Int) != 0) = true := bne_iff_ne.mpr c30
                      have c30b2 : ¬ (x10_5 = []) := fun h_ => c30 (by rw [h_]; rfl)
                      obtain ⟨ji31, hji31⟩ : ∃ j_ : Int, (Int.tmod (wrap64 ((Int.tmod (rd l2 x15_2) (x10_5.length : Int)) + (x10_5.length : Int))) (x10_5.length : Int)) = j_ := ⟨_, rfl⟩
                      replace H : (if 0 ≤ (ji31) then (if (ji31) < (x11_5.length : Int) then (if x221000_2.length < 17592186044416 then (if (ji31) < (x10_5.length : Int) then (if x14_2.length < 8796093022208 then (flyleaflaw09_DynamicLists.l1 k2 l2 t218 x8_5 x10_5 x11_5 (x14_2 ++ [rdOf ByteArray.empty x10_5 (ji31)]) (wrap64 (x15_2 + 1)) (x221000_2 ++ [rd x11_5 (ji31)]) (t219.size : Int) (wrap64 ((x8_5.size : Int) - (t219.size : Int))) 0 0 0 0 0 0) else (none)) else (none)) else (none)) else (none)) else (none)) = some r := by first | (rw [hji31] at H; exact H) | (simp only [hji31] at H ⊢; exact H)
                      by_cases c32 : 0 ≤ (ji31)
                      · rw [if_pos c32] at H
                        have c32b0 : decide (0 ≤ (ji31)) = true := decide_eq_true c32
                        clear c32
                        by_cases c33 : (ji31) < (x11_5.length : Int)
                        · rw [if_pos c33] at H
                          have c33b0 : decide ((ji31) < (x11_5.length : Int)) = true := decide_eq_true c33
                          clear c33
                          by_cases c34 : x221000_2.length < 17592186044416
                          · rw [if_pos c34] at H
                            have LMc34 := Aside0.mk c34
                            clear c34
                            obtain ⟨y233, hy233⟩ : ∃ y_ : List Int, y_ = (x221000_2 ++ [rd x11_5 (ji31)]) := ⟨_, rfl⟩
                            replace H : (if (ji31) < (x10_5.length : Int) then (if x14_2.length < 8796093022208 then (flyleaflaw09_DynamicLists.l1 k2 l2 t218 x8_5 x10_5 x11_5 (x14_2 ++ [rdOf ByteArray.empty x10_5 (ji31)]) (wrap64 (x15_2 + 1)) y233 (t219.size : Int) (wrap64 ((x8_5.size : Int) - (t219.size : Int))) 0 0 0 0 0 0) else (none)) else (none)) = some r := by first | (rw [hy233]; with_reducible exact H) | (have H2_ := (Option.bind_some _ _).symm.trans H; rw [hy233]; with_reducible exact H2_) | (have H2_ := (Option.bind_some _ _).symm.trans H; with_reducible exact H2_) | with_reducible exact H | (rw [hy233]; exact H) | exact H
                            have Ny233 := Aside0.mk hy233
                            clear hy233
                            by_cases c35 : (ji31) < (x10_5.length : Int)
                            · rw [if_pos c35] at H
                              have c35b0 : decide ((ji31) < (x10_5.length : Int)) = true := decide_eq_true c35
                              clear c35
                              by_cases c36 : x14_2.length < 8796093022208
                              · rw [if_pos c36] at H
                                have LMc36 := Aside0.mk c36
                                clear c36
                                obtain ⟨y237, hy237⟩ : ∃ y_ : List ByteArray, y_ = (x14_2 ++ [rdOf ByteArray.empty x10_5 (ji31)]) := ⟨_, rfl⟩
                                replace H : (flyleaflaw09_DynamicLists.l1 k2 l2 t218 x8_5 x10_5 x11_5 y237 (wrap64 (x15_2 + 1)) y233 (t219.size : Int) (wrap64 ((x8_5.size : Int) - (t219.size : Int))) 0 0 0 0 0 0) = some r := by first | (rw [hy237]; with_reducible exact H) | (have H2_ := (Option.bind_some _ _).symm.trans H; rw [hy237]; with_reducible exact H2_) | (have H2_ := (Option.bind_some _ _).symm.trans H; with_reducible exact H2_) | with_reducible exact H | (rw [hy237]; exact H) | exact H
                                have Ny237 := Aside0.mk hy237
                                clear hy237
                                have H' := Aside0.mk H
                                clear H
                                obtain ⟨Ao37, co37, eo37⟩ := Kd.R_slice HO_10.out
                                subst eo37
                                have p231 : 0 ≤ (x15_2 : Int) := of_decide_eq_true (by first | (with_reducible assumption) | assumption)
                                have q231 : x15_2 < (l2.length : Int) := of_decide_eq_true (by first | (with_reducible assumption) | assumption)
                                obtain ⟨ad231, e231, hx231_0⟩ := Kd.at_int HR2.out x15_2 p231 q231
                                cases e231
                                replace hx231_0 := (HB.out.cell (World.block_lt_of_cell? w _ hx231_0)).trans hx231_0
                                replace p231 := eq_true p231
                                replace q231 := eq_true q231
                                try go_wp2
                                have n0_ := Aside0.mk (Kd.R_drew HO_10.out)
                                have n1_ := Aside0.mk (Kd.R_drew HO_11.out)
                                have n2_ := Aside0.mk (Kd.R_drew HO_14.out)
                                have n3_ := Aside0.mk (Kd.R_drew HO_221000.out)
                                have n4_ := Aside0.mk (blk_drew BK220.out)
                                have n5_ := Aside0.mk (below_drew1 HB.out)
                                clear HO_10
                                clear HO_11
                                clear HO_14
                                clear HO_221000
                                clear BK220
                                clear HB
                                have HO_10 := n0_
                                have HO_11 := n1_
                                have HO_14 := n2_
                                have HO_221000 := n3_
                                have BK220 := n4_
                                have HB := n5_
                                clear n0_ n1_ n2_ n3_ n4_ n5_
                                obtain ⟨Ao39, co39, eo39⟩ := Kd.R_slice HO_11.out
                                (first | subst eo39 | (injection eo39 with f1_ f2_ f3_; have f4_ := f1_.symm; have f5_ := f3_.symm; clear f1_ f2_ f3_; subst f4_; subst f5_))
                                have p232 : 0 ≤ ((ji31) : Int) := of_decide_eq_true (by first | (with_reducible assumption) | assumption)
                                have q232 : (ji31) < (x11_5.length : Int) := of_decide_eq_true (by first | (with_reducible assumption) | assumption)
                                obtain ⟨ad232, e232, hx232_0⟩ := Kd.at_int (Kd.R_reads' HO_11.out).2.2 (ji31) p232 q232
                                cases e232
                                replace p232 := eq_true p232
                                replace q232 := eq_true q232
                                refine start_ (n := 10) (S := fun w' => w'.cell? ⟨gb220, 0, none⟩ = some (u221000) ∧ w'.cell? ⟨gb220, 1, none⟩ = some (.int .i64 (t219.size : Int)) ∧ w'.cell? ⟨gb220, 2, none⟩ = some (.int .i64 (wrap64 ((x8_5.size : Int) - (t219.size : Int)))) ∧ w'.cell? ⟨gb220, 3, none⟩ = some (.int .i64 0) ∧ w'.cell? ⟨gb220, 4, none⟩ = some (.int .i64 0) ∧ w'.cell? ⟨gb220, 5, none⟩ = some (.int .i64 0) ∧ w'.cell? ⟨gb220, 6, none⟩ = some (.int .i64 0) ∧ w'.cell? ⟨gb220, 7, none⟩ = some (.int .i64 0) ∧ w'.cell? ⟨gb220, 8, none⟩ = some (.int .i64 0) ∧ w'.cell? (ad232.add ((ji31)).toNat) = some (.int .i64 (rd x11_5 (ji31)))) (ds := [7, 9]) #[false, false, false, false, false, false, false, false, false, false] (by kernel_rfl) rfl rfl ⟨(blk_cell BK220.out 0).trans rfl, (blk_cell BK220.out 1).trans rfl, (blk_cell BK220.out 2).trans rfl, (blk_cell BK220.out 3).trans rfl, (blk_cell BK220.out 4).trans rfl, (blk_cell BK220.out 5).trans rfl, (blk_cell BK220.out 6).trans rfl, (blk_cell BK220.out 7).trans rfl, (blk_cell BK220.out 8).trans rfl, hx232_0⟩ (fun hHeld => ?_); refine with_tabW flyleaflaw09_DynamicLists.tab19 flyleaflaw09_DynamicLists.bits19 (fun HT_ HW_ => ?_)
                                generalize wr.drew = w38 at HO_10 HO_11 HO_14 HO_221000 BK220 HB hx232_0 hHeld ⊢
                                refine pure_ (i := 0) (N := some 103) (v := ?_) (a' := ?_) #[true, false, false, false, false, false, false, false, false, false] rfl rfl (any_of HT_.out (by kernel_rfl)) (fun _ _ _ h => h) (Or.inl ⟨by rfl, ?_⟩) ?_ ?_
                                rotate_left
                                · intro w'
                                  go_simp
                                  with_reducible rfl
                                rotate_left
                                · simp only [Act.put, List.setIfInBounds_toArray, List.set_cons_zero, List.set_cons_succ, i64_w, i32_w]
                                  rfl
                                refine pure_ (i := 2) (N := some 105) (v := ?_) (a' := ?_) #[true, false, true, false, false, false, false, false, false, false] rfl rfl (any_of HT_.out (by kernel_rfl)) (fun _ _ _ h => h) (Or.inl ⟨by rfl, ?_⟩) ?_ ?_
                                rotate_left
                                · intro w'
                                  go_simp
                                  with_reducible rfl
                                rotate_left
                                · simp only [Act.put, List.setIfInBounds_toArray, List.set_cons_zero, List.set_cons_succ, i64_w, i32_w]
                                  rfl
                                refine pure_ (i := 3) (N := some 106) (v := ?_) (a' := ?_) #[true, false, true, true, false, false, false, false, false, false] rfl rfl (any_of HT_.out (by kernel_rfl)) (fun _ _ _ h => h) (Or.inl ⟨by rfl, ?_⟩) ?_ ?_
                                rotate_left
                                · intro w'
                                  go_simp
                                  with_reducible rfl
                                rotate_left
                                · simp only [Act.put, List.setIfInBounds_toArray, List.set_cons_zero, List.set_cons_succ, i64_w, i32_w]
                                  rfl
                                refine pure_ (i := 4) (N := some 107) (v := ?_) (a' := ?_) #[true, false, true, true, true, false, false, false, false, false] rfl rfl (any_of HT_.out (by kernel_rfl)) (fun _ _ _ h => h) (Or.inl ⟨by rfl, ?_⟩) ?_ ?_
                                rotate_left
                                · intro w'
                                  go_simp
                                  with_reducible rfl
                                rotate_left
                                · simp only [Act.put, List.setIfInBounds_toArray, List.set_cons_zero, List.set_cons_succ, i64_w, i32_w]
                                  rfl
                                refine take_ (i := 1) (N := some 104) (v := ?_) (a' := ?_) #[true, true, true, true, true, false, false, false, false, false] rfl rfl (take_ofW HT_.out HW_.out (by kernel_rfl)) (fun _ _ _ h => h) (Or.inl ⟨by rfl, ?_⟩) hHeld ?_ ?_
                                rotate_left
                                · rintro w' ⟨s0, s1, s2, s3, s4, s5, s6, s7, s8, s9⟩
                                  go_simp
                                  with_reducible rfl
                                rotate_left
                                · simp only [Act.put, List.setIfInBounds_toArray, List.set_cons_zero, List.set_cons_succ, i64_w, i32_w]
                                  rfl
                                refine take_ (i := 5) (N := some 108) (v := ?_) (a' := ?_) #[true, true, true, true, true, true, false, false, false, false] rfl rfl (take_ofW HT_.out HW_.out (by kernel_rfl)) (fun _ _ _ h => h) (Or.inl ⟨by rfl, ?_⟩) hHeld ?_ ?_
                                rotate_left
                                · rintro w' ⟨s0, s1, s2, s3, s4, s5, s6, s7, s8, s9⟩
                                  go_simp
                                  with_reducible rfl
                                rotate_left
                                · simp only [Act.put, List.setIfInBounds_toArray, List.set_cons_zero, List.set_cons_succ, i64_w, i32_w]
                                  rfl
                                refine one_ (i := 6) (N := some 109) #[true, true, true, true, true, true, true, false, false, false] rfl rfl (one_of HT_.out (by kernel_rfl)) (by decide) (fun K hK => ?_)
                                refine value_ (w1 := ?_) (v := ?_) (by rfl) rfl ?_ ?_
                                rotate_left 2
                                · go_simp
                                  constructor
                                  · rfl
                                  · rfl
                                refine hK.out _ _ ⟨(blk_cell (blk_alloc BK220.out _) 0).trans rfl, (blk_cell (blk_alloc BK220.out _) 1).trans rfl, (blk_cell (blk_alloc BK220.out _) 2).trans rfl, (blk_cell (blk_alloc BK220.out _) 3).trans rfl, (blk_cell (blk_alloc BK220.out _) 4).trans rfl, (blk_cell (blk_alloc BK220.out _) 5).trans rfl, (blk_cell (blk_alloc BK220.out _) 6).trans rfl, (blk_cell (blk_alloc BK220.out _) 7).trans rfl, (blk_cell (blk_alloc BK220.out _) 8).trans rfl, (World.cell?_alloc_lt _ _ _ (World.block_lt_of_cell? _ _ (hHeld.2.2.2.2.2.2.2.2.2))).trans (hHeld.2.2.2.2.2.2.2.2.2)⟩ (fun hHeld => ?_)
                                clear hK K
                                refine norm_ (a' := ?_) ?_ ?_
                                rotate_left
                                · show Act.put _ (some 109) _ = _
                                  simp only [Act.put, List.setIfInBounds_toArray, List.set_cons_zero, List.set_cons_succ, i64_w, i32_w]
                                  rfl
                                refine last_ (i := 7) (N := some 110) #[true, true, true, true, true, true, true, true, false, false] rfl rfl (one_of HT_.out (by kernel_rfl)) (by decide) (fun K hK => ?_)
                                refine Kd.R_append_step (Kd.int .i64) (w0 := w) w.heap.size (by rfl) (.tmp 104) (.tmp 109) 25 3 (.int .i64 0) 8 rfl Try.underlying25 info3 rfl (by decide) (by omega) u221000 x221000_2 (rd x11_5 (ji31)) [.int .i64 (rd x11_5 (ji31))] (fun k_ => some k_ ≠ (.slice (some ad232) x11_5.length co39 : Value).ownBlock) (fun _ => False) rfl rfl ?aP (fun _ hk => hk.elim) ?aF ?aO ?aB ?aS ?aL ?_
                                (case aP => exact rfl)
                                (case aB => exact (by repeat (first | (with_reducible first | exact HB.out | apply below_alloc | apply pw_below_drewN | apply below_drew1 | refine below_set ?_ GE220.out) | exact HB.out)))
                                (case aF => exact (fun k_ hk => Kd.fresh' (Kd.R_lt (by (with_reducible repeat (first | apply Kd.R_alloc | apply Kd.R_drewN | apply Kd.R_drew)); exact HO_11.out)) k_ hk))
                                (case aO => exact (by (with_reducible repeat (first | apply Kd.R_alloc | apply Kd.R_drewN | apply Kd.R_drew)); exact HO_221000.out))
                                (case aS => exact (below_size (by repeat (first | (with_reducible first | exact HB.out | apply below_alloc | apply pw_below_drewN | apply below_drew1 | refine below_set ?_ GE220.out) | exact HB.out))))
                                (case aL => have := LMc34.out; omega)
                                intro v234 w40 ho hb hg hat
                                rw [← Ny233.out] at ho
                                have n0_ := Aside0.mk (Kd.R_over' (by (with_reducible repeat (first | apply Kd.R_alloc | apply Kd.R_drewN | apply Kd.R_drew)); exact HO_10.out) (Kd.R_typed (by (with_reducible repeat (first | apply Kd.R_alloc | apply Kd.R_drewN | apply Kd.R_drew)); exact HO_221000.out)) (by decide) hg)
                                have n1_ := Aside0.mk (Kd.R_after (ok := (fun _ => True)) (by (with_reducible repeat (first | apply Kd.R_alloc | apply Kd.R_drewN | apply Kd.R_drew)); exact Kd.R_mono HO_11.out (fun _ hk => ⟨trivial, hk⟩)) hg hat)
                                have n2_ := Aside0.mk (Kd.R_over' (by (with_reducible repeat (first | apply Kd.R_alloc | apply Kd.R_drewN | apply Kd.R_drew)); exact HO_14.out) (Kd.R_typed (by (with_reducible repeat (first | apply Kd.R_alloc | apply Kd.R_drewN | apply Kd.R_drew)); exact HO_221000.out)) (by decide) hg)
                                have n3_ := Aside0.mk (blk_grown (g := gb220) (o := .cells #[u221000, .int .i64 (t219.size : Int), .int .i64 (wrap64 ((x8_5.size : Int) - (t219.size : Int))), .int .i64 0, .int .i64 0, .int .i64 0, .int .i64 0, .int .i64 0, .int .i64 0] 54 (0, 0)) (by (with_reducible repeat (first | refine blk_drewN ?_ _ | refine blk_drew ?_ | refine blk_alloc ?_ _)); exact BK220.out) hg (Kd.R_ne HO_221000.out BK220.out (by decide)))
                                have n4_ := Aside0.mk (hb)
                                have n5_ := Aside0.mk (ho)
                                clear HO_10
                                clear HO_11
                                clear HO_14
                                clear BK220
                                clear HB
                                clear HO_221000
                                have HO_10 := n0_
                                have HO_11 := n1_
                                have HO_14 := n2_
                                have BK220 := n3_
                                have HB := n4_
                                have HO235 := n5_
                                clear n0_ n1_ n2_ n3_ n4_ n5_
                                clear ho hb hg hat
                                obtain ⟨Ao41, co41, eo41⟩ := Kd.R_slice HO235.out
                                (first | subst eo41 | (injection eo41 with f1_ f2_ f3_; have f4_ := f1_.symm; have f5_ := f3_.symm; clear f1_ f2_ f3_; subst f4_; subst f5_))
                                refine hK.out _ _ ?_
                                clear hK K
                                refine norm_ (a' := ?_) ?_ ?_
                                rotate_left
                                · show Act.put _ (some 110) _ = _
                                  simp only [Act.put, List.setIfInBounds_toArray, List.set_cons_zero, List.set_cons_succ, i64_w, i32_w]
                                  rfl
                                refine pure_ (i := 8) (N := some 111) (v := ?_) (a' := ?_) #[true, true, true, true, true, true, true, true, true, false] rfl rfl (any_of HT_.out (by kernel_rfl)) (fun _ _ _ h => h) (Or.inl ⟨by rfl, ?_⟩) ?_ ?_
                                rotate_left
                                · intro w'
                                  go_simp
                                  with_reducible rfl
                                rotate_left
                                · simp only [Act.put, List.setIfInBounds_toArray, List.set_cons_zero, List.set_cons_succ, i64_w, i32_w]
                                  rfl
                                refine last_ (i := 9) (N := none) #[true, true, true, true, true, true, true, true, true, true] rfl rfl (one_of HT_.out (by kernel_rfl)) (by decide) (fun K hK => ?_)
                                have hs42 : w40.cell? ⟨gb220, 0, none⟩ = some (u221000) := (blk_cell BK220.out 0).trans rfl
                                have hfs42 := blk_frozen BK220.out 0
                                refine skip_ (w1 := ?_) (by rfl) rfl ?_ ?_
                                rotate_left
                                · go_simp
                                  rfl
                                refine hK.out _ _ ?_
                                clear hK K
                                refine done_ (done_of HT_.out (by kernel_rfl)) ?_
                                have p236 : 0 ≤ ((ji31) : Int) := of_decide_eq_true (by first | (with_reducible assumption) | assumption)
                                have q236 : (ji31) < (x10_5.length : Int) := of_decide_eq_true (by first | (with_reducible assumption) | assumption)
                                obtain ⟨ad236, e236, hx236_0⟩ := Kd.at_string (Kd.R_reads' HO_10.out).2.2 (ji31) p236 q236
                                cases e236
                                have hn236_0 : ad236.block ≠ gb220 := Kd.own_blk (Kd.R_ne HO_10.out BK220.out (by decide))
                                replace hx236_0 := (cell_far (p := ⟨gb220, 0, none⟩) (by first | (rw [add_block]; exact hn236_0) | (show (Addr.add _ _).block ≠ _; rw [add_block]; exact hn236_0) | exact hn236_0) (.slice Ao41 y233.length co41)).trans hx236_0
                                clear hn236_0
                                replace p236 := eq_true p236
                                replace q236 := eq_true q236
                                try go_wp2_with (first | ((with_reducible refine gate_builtin (b := .append) (xs := #[.tmp 112, .tmp 117]) rfl ?_); (try (refine gate_guard (by rfl) ?_; dsimp only)); at_builtin; refine Kd.R_append Kd.string (w0 := w) w.heap.size rfl (.tmp 112) (.tmp 117) 50 9 (.string ⟨#[]⟩) 16 rfl Try.underlying50 info9 rfl (by decide) (by omega) u14 x14_2 (rdOf ByteArray.empty x10_5 (ji31)) [.string (rdOf ByteArray.empty x10_5 (ji31))] (fun k_ => some k_ ≠ (.slice (some ad236) x10_5.length co37 : Value).ownBlock) (fun _ => False) rfl (by first | (go_simp; done) | (go_simp; rfl)) ?aP (fun _ hk => hk.elim) ?aF ?aO ?aB ?aS ?aL ?_; (case aP => exact rfl); (case aB => exact (by repeat (first | (with_reducible first | exact HB.out | apply below_alloc | apply pw_below_drewN | apply below_drew1 | refine below_set ?_ GE220.out) | exact HB.out))); (case aF => exact (fun k_ hk => Kd.fresh' (Kd.R_lt (by (with_reducible repeat (first | apply Kd.R_alloc | apply Kd.R_drewN | apply Kd.R_drew)); exact (Kd.R_mono (Kd.R_far (p := ⟨gb220, 0, none⟩) (Kd.R_types HO_10.out BK220.out (by decide)) (fun _ hk => hk.2) (.slice Ao41 y233.length co41)) (fun _ h_ => h_.1)))) k_ hk)); (case aO => exact (by (with_reducible repeat (first | apply Kd.R_alloc | apply Kd.R_drewN | apply Kd.R_drew)); exact Kd.R_mono (Kd.R_far (p := ⟨gb220, 0, none⟩) (Kd.R_types HO_14.out BK220.out (by decide)) (fun _ hk => hk.2) (.slice Ao41 y233.length co41)) (fun _ hk => hk.1))); (case aS => exact (below_size (by repeat (first | (with_reducible first | exact HB.out | apply below_alloc | apply pw_below_drewN | apply below_drew1 | refine below_set ?_ GE220.out) | exact HB.out)))); (case aL => have := LMc36.out; omega); intro v238 w43 ho hb hg hat; rw [← Ny237.out] at ho; have n0_ := Aside0.mk (Kd.R_after (ok := (fun _ => True)) (by (with_reducible repeat (first | apply Kd.R_alloc | apply Kd.R_drewN | apply Kd.R_drew)); exact Kd.R_mono (Kd.R_far (p := ⟨gb220, 0, none⟩) (Kd.R_types HO_10.out BK220.out (by decide)) (fun _ hk => hk.2) (.slice Ao41 y233.length co41)) (fun _ hk => ⟨trivial, hk.1⟩)) hg hat); have n1_ := Aside0.mk (Kd.R_over' (by (with_reducible repeat (first | apply Kd.R_alloc | apply Kd.R_drewN | apply Kd.R_drew)); exact (Kd.R_mono (Kd.R_far (p := ⟨gb220, 0, none⟩) (Kd.R_types HO_11.out BK220.out (by decide)) (fun _ hk => hk.2) (.slice Ao41 y233.length co41)) (fun _ h_ => h_.1))) (Kd.R_typed (by (with_reducible repeat (first | apply Kd.R_alloc | apply Kd.R_drewN | apply Kd.R_drew)); exact (Kd.R_mono (Kd.R_far (p := ⟨gb220, 0, none⟩) (Kd.R_types HO_14.out BK220.out (by decide)) (fun _ hk => hk.2) (.slice Ao41 y233.length co41)) (fun _ h_ => h_.1)))) (by decide) hg); have n2_ := Aside0.mk (blk_grown (g := gb220) (o := .cells #[.slice Ao41 y233.length co41, .int .i64 (t219.size : Int), .int .i64 (wrap64 ((x8_5.size : Int) - (t219.size : Int))), .int .i64 0, .int .i64 0, .int .i64 0, .int .i64 0, .int .i64 0, .int .i64 0] 54 (0, 0)) (by (with_reducible repeat (first | refine blk_drewN ?_ _ | refine blk_drew ?_ | refine blk_alloc ?_ _)); refine blk_put (cs := #[u221000, .int .i64 (t219.size : Int), .int .i64 (wrap64 ((x8_5.size : Int) - (t219.size : Int))), .int .i64 0, .int .i64 0, .int .i64 0, .int .i64 0, .int .i64 0, .int .i64 0]) ?_ 0 _ rfl; (with_reducible repeat (first | refine blk_drewN ?_ _ | refine blk_drew ?_ | refine blk_alloc ?_ _)); exact BK220.out) hg (Kd.R_ne HO_14.out BK220.out (by decide))); have n3_ := Aside0.mk (Kd.R_over' (by (with_reducible repeat (first | apply Kd.R_alloc | apply Kd.R_drewN | apply Kd.R_drew)); exact (Kd.R_mono (Kd.R_far (p := ⟨gb220, 0, none⟩) (Kd.R_types HO235.out BK220.out (by decide)) (fun _ hk => hk.2) (.slice Ao41 y233.length co41)) (fun _ h_ => h_.1))) (Kd.R_typed (by (with_reducible repeat (first | apply Kd.R_alloc | apply Kd.R_drewN | apply Kd.R_drew)); exact (Kd.R_mono (Kd.R_far (p := ⟨gb220, 0, none⟩) (Kd.R_types HO_14.out BK220.out (by decide)) (fun _ hk => hk.2) (.slice Ao41 y233.length co41)) (fun _ h_ => h_.1)))) (by decide) hg); have n4_ := Aside0.mk (hb); have n5_ := Aside0.mk (ho); clear HO_10; clear HO_11; clear BK220; clear HO235; clear HB; clear HO_14; have HO_10 := n0_; have HO_11 := n1_; have BK220 := n2_; have HO235 := n3_; have HB := n4_; have HO239 := n5_; clear n0_ n1_ n2_ n3_ n4_ n5_; clear ho hb hg hat))
                                go_roundg k2
                                case measure => have := HJ5.out; have := HK2.out; omega
                                case rel => exact ⟨(y237), (wrap64 (x15_2 + 1)), (y233), (.slice Ao41 y233.length co41), (by first | rfl | (simp; done) | (simp [*]; done)), H', ⟨by have := HJ5.out; have := HK2.out; omega⟩, ⟨by (with_reducible repeat (first | apply Kd.R_alloc | apply Kd.R_drewN | apply Kd.R_drew)); exact Kd.R_mono HO_10.out (fun _ hk => hk.2)⟩, ⟨by (with_reducible repeat (first | apply Kd.R_alloc | apply Kd.R_drewN | apply Kd.R_drew)); exact Kd.R_mono HO_11.out (fun _ hk => hk.2)⟩, ⟨by (with_reducible repeat (first | apply Kd.R_alloc | apply Kd.R_drewN | apply Kd.R_drew)); exact HO239.out⟩, ⟨by (with_reducible repeat (first | apply Kd.R_alloc | apply Kd.R_drewN | apply Kd.R_drew)); exact HO235.out⟩, ⟨by (with_reducible repeat (first | refine blk_drewN ?_ _ | refine blk_drew ?_ | refine blk_alloc ?_ _)); exact BK220.out⟩, ⟨by repeat (first | (with_reducible first | exact HB.out | apply below_alloc | apply pw_below_drewN | apply below_drew1 | refine below_set ?_ GE220.out) | exact HB.out)⟩⟩
                              · rw [if_neg c36] at H
                                exact absurd H (by simp)
                            · rw [if_neg c35] at H
                              exact absurd H (by simp)
                          · rw [if_neg c34] at H
                            exact absurd H (by simp)
                        · rw [if_neg c33] at H
                          exact absurd H (by simp)
                      · rw [if_neg c32] at H
                        exact absurd H (by simp)
                  · rw [if_neg c29] at H
                    exact absurd H (by simp)
                · rw [if_neg c28] at H
                  have c28b0 : decide (0 < (x10_5.length : Int)) = false := decide_eq_false c28
                  have c28b1 : decide (0 < x10_5.length) = false := decide_eq_false (by omega)
                  clear c28
                  have H' := Aside0.mk H
                  clear H
                  obtain ⟨Ao44, co44, eo44⟩ := Kd.R_slice HO_10.out
                  subst eo44
                  go_wp2
                  go_meet
                  case rel => exact ⟨_, (x14_2), (x221000_2), (u221000), H', ⟨by have := HJ5.out; have := HK2.out; first | omega | exact Nat.le_refl _⟩, ⟨by (with_reducible repeat (first | apply Kd.R_alloc | apply Kd.R_drewN | apply Kd.R_drew)); exact Kd.R_mono HO_14.out (fun _ hk => trivial)⟩, ⟨by (with_reducible repeat (first | apply Kd.R_alloc | apply Kd.R_drewN | apply Kd.R_drew)); exact Kd.R_mono HO_221000.out (fun _ hk => trivial)⟩, ⟨by (with_reducible repeat (first | refine blk_drewN ?_ _ | refine blk_drew ?_ | refine blk_alloc ?_ _)); exact BK220.out⟩, ⟨by repeat (first | (with_reducible first | exact HB.out | apply below_alloc | apply pw_below_drewN | apply below_drew1 | refine below_set ?_ GE220.out) | exact HB.out)⟩⟩
              · rw [if_neg c27] at H
                have c27b0 : decide (x15_2 < 8) = false := decide_eq_false c27
                clear c27
                have H' := Aside0.mk H
                clear H
                go_wp2
                go_meet
                case rel => exact ⟨_, (x14_2), (x221000_2), (u221000), H', ⟨by have := HJ5.out; have := HK2.out; first | omega | exact Nat.le_refl _⟩, ⟨by (with_reducible repeat (first | apply Kd.R_alloc | apply Kd.R_drewN | apply Kd.R_drew)); exact Kd.R_mono HO_14.out (fun _ hk => trivial)⟩, ⟨by (with_reducible repeat (first | apply Kd.R_alloc | apply Kd.R_drewN | apply Kd.R_drew)); exact Kd.R_mono HO_221000.out (fun _ hk => trivial)⟩, ⟨by (with_reducible repeat (first | refine blk_drewN ?_ _ | refine blk_drew ?_ | refine blk_alloc ?_ _)); exact BK220.out⟩, ⟨by repeat (first | (with_reducible first | exact HB.out | apply below_alloc | apply pw_below_drewN | apply below_drew1 | refine below_set ?_ GE220.out) | exact HB.out)⟩⟩
            · rw [if_neg c26] at H
              have c26b0 : decide (x15_2 < (l2.length : Int)) = false := decide_eq_false c26
              clear c26
              (first | rw [c26b0] | (simp only [i64_w, i32_w]; rw [c26b0]) | skip)
              have H' := Aside0.mk H
              clear H
              go_wp2
              go_meet
              case rel => exact ⟨_, (x14_2), (x221000_2), (u221000), H', ⟨by have := HJ5.out; have := HK2.out; first | omega | exact Nat.le_refl _⟩, ⟨by (with_reducible repeat (first | apply Kd.R_alloc | apply Kd.R_drewN | apply Kd.R_drew)); exact Kd.R_mono HO_14.out (fun _ hk => trivial)⟩, ⟨by (with_reducible repeat (first | apply Kd.R_alloc | apply Kd.R_drewN | apply Kd.R_drew)); exact Kd.R_mono HO_221000.out (fun _ hk => trivial)⟩, ⟨by (with_reducible repeat (first | refine blk_drewN ?_ _ | refine blk_drew ?_ | refine blk_alloc ?_ _)); exact BK220.out⟩, ⟨by repeat (first | (with_reducible first | exact HB.out | apply below_alloc | apply pw_below_drewN | apply below_drew1 | refine below_set ?_ GE220.out) | exact HB.out)⟩⟩
      case rest =>
        clear HC24
        try clear c1
        try clear c2
        try clear p2
        try clear q2
        try clear hx2
        try clear hcv2
        try clear c3
        try clear c4
        try clear c5
        try clear p6
        try clear c11
        try clear c11b0
        try clear c12
        try clear c12b0
        try clear c13
        try clear c13b0
        try clear c14
        try clear c15
        try clear c16
        try clear c16b0
        try clear c16b1
        try clear c16b2
        try clear c17
        try clear c17b0
        try clear c17b1
        try clear c17b2
        try clear hcv20
        try clear p22
        try clear q22
        try clear hx22
        try clear p23
        try clear q23
        try clear hx23
        try clear c26
        try clear c26b0
        try clear c27
        try clear c27b0
        try clear c28
        try clear c28b0
        try clear c28b1
        try clear c29
        try clear c29b0
        try clear c30
        try clear c30b0
        try clear c30b1
        try clear c30b2
        try clear c32
        try clear c32b0
        try clear c33
        try clear c33b0
        try clear c34
        try clear c35
        try clear c35b0
        try clear c36
        try clear hcz10_0
        try clear hcz10_1
        try clear hcz10_2
        try clear hcz10_3
        try clear hcz10_4
        try clear hcz10_5
        try clear hcz10_6
        try clear hcz10_7
        try clear hcz10_8
        try clear hcz22_0
        try clear hcz22_1
        try clear hcz22_2
        try clear hcz22_3
        try clear hcz22_4
        try clear hcz22_5
        try clear hcz22_6
        try clear hcz22_7
        try clear hcz22_8
        try clear hcz25_0
        try clear hcz25_1
        try clear hcz25_2
        try clear hcz25_3
        try clear hcz25_4
        try clear hcz25_5
        try clear hcz25_6
        try clear hcz25_7
        try clear hcz25_8
        try clear hfz10_0
        try clear hfz10_1
        try clear hfz10_2
        try clear hfz10_3
        try clear hfz10_4
        try clear hfz10_5
        try clear hfz10_6
        try clear hfz10_7
        try clear hfz10_8
        try clear hfz22_0
        try clear hfz22_1
        try clear hfz22_2
        try clear hfz22_3
        try clear hfz22_4
        try clear hfz22_5
        try clear hfz22_6
        try clear hfz22_7
        try clear hfz22_8
        try clear hfz25_0
        try clear hfz25_1
        try clear hfz25_2
        try clear hfz25_3
        try clear hfz25_4
        try clear hfz25_5
        try clear hfz25_6
        try clear hfz25_7
        try clear hfz25_8
        try clear hx221_0
        try clear hx231_0
        try clear hx232_0
        try clear hx236_0
        try clear p2
        try clear p22
        try clear p221
        try clear p231
        try clear p232
        try clear p236
        try clear p6
        try clear q2
        try clear q22
        try clear q221
        try clear q231
        try clear q232
        try clear q236
        obtain ⟨kq, x14_23, x221000_23, u221000, HA, HJ23, HO_14, HO_221000, BK220, HB⟩ := hcut
        cases kq with
        | zero => exact absurd HA.out (by simp [flyleaflaw09_DynamicLists.j3])
        | succ kj23 =>
          have H := HA.out
          clear HA
          simp only [flyleaflaw09_DynamicLists.j3] at H
          by_cases c45 : x8_5.size + 5 ≤ 9223372036854775807
          · rw [if_pos c45] at H
            have c45b0 := eq_true c45
            have c45b1 : decide (x8_5.size + 5 ≤ 9223372036854775807) = true := decide_eq_true c45
            try have c45b2 : (9223372036854775807 < x8_5.size + 5) = False := eq_false (Nat.not_lt.2 c45)
            replace H := Option.bind_eq_some_iff.mp H
            obtain ⟨⟨t240, t243⟩, A460, H⟩ := H
            replace H : ((flyleafref09_SameTexts.f kj23 t240 x14_23).bind fun t244 => ((dynamic_Name.f kj23 (x8_5 ++ (⟨#[109, 111, 114, 101, 0]⟩ : ByteArray)) x221000_23 (t219.size : Int) (wrap64 ((x8_5.size : Int) - (t219.size : Int))) 0 0 0 0 0 0 (wrap64 ((x8_5.size : Int) - (t219.size : Int)))).bind fun bt245 => (if x221000_23.length < 17592186044416 then ((dynamic_Names.f kj23 (x8_5 ++ (⟨#[109, 111, 114, 101, 0]⟩ : ByteArray)) (x221000_23 ++ [(wrap64 ((x8_5.size : Int) - (t219.size : Int)))]) (t219.size : Int) (wrap64 ((x8_5.size : Int) - (t219.size : Int))) 0 0 0 0 0 0).bind fun bt250 => (if t218 = true then (if t244 = true then (if t243 = 0 then (if bt245.2 = true then (some false) else (some (bt250.2 == 17))) else (some false)) else (some false)) else (some false))) else (none)))) = some r := H
            have A46 := Aside0.mk A460
            clear A460
            replace H := Option.bind_eq_some_iff.mp H
            obtain ⟨t244, A470, H⟩ := H
            replace H : ((dynamic_Name.f kj23 (x8_5 ++ (⟨#[109, 111, 114, 101, 0]⟩ : ByteArray)) x221000_23 (t219.size : Int) (wrap64 ((x8_5.size : Int) - (t219.size : Int))) 0 0 0 0 0 0 (wrap64 ((x8_5.size : Int) - (t219.size : Int)))).bind fun bt245 => (if x221000_23.length < 17592186044416 then ((dynamic_Names.f kj23 (x8_5 ++ (⟨#[109, 111, 114, 101, 0]⟩ : ByteArray)) (x221000_23 ++ [(wrap64 ((x8_5.size : Int) - (t219.size : Int)))]) (t219.size : Int) (wrap64 ((x8_5.size : Int) - (t219.size : Int))) 0 0 0 0 0 0).bind fun bt250 => (if t218 = true then (if t244 = true then (if t243 = 0 then (if bt245.2 = true then (some false) else (some (bt250.2 == 17))) else (some false)) else (some false)) else (some false))) else (none))) = some r := H
            have A47 := Aside0.mk A470
            clear A470
            replace H := Option.bind_eq_some_iff.mp H
            obtain ⟨⟨t245, t246⟩, A480, H⟩ := H
            replace H : (if x221000_23.length < 17592186044416 then ((dynamic_Names.f kj23 (x8_5 ++ (⟨#[109, 111, 114, 101, 0]⟩ : ByteArray)) (x221000_23 ++ [(wrap64 ((x8_5.size : Int) - (t219.size : Int)))]) (t219.size : Int) (wrap64 ((x8_5.size : Int) - (t219.size : Int))) 0 0 0 0 0 0).bind fun bt250 => (if t218 = true then (if t244 = true then (if t243 = 0 then (if t246 = true then (some false) else (some (bt250.2 == 17))) else (some false)) else (some false)) else (some false))) else (none)) = some r := H
            have A48 := Aside0.mk A480
            clear A480
            by_cases c49 : x221000_23.length < 17592186044416
            · rw [if_pos c49] at H
              have LMc49 := Aside0.mk c49
              clear c49
              obtain ⟨y247, hy247⟩ : ∃ y_ : List Int, y_ = (x221000_23 ++ [(wrap64 ((x8_5.size : Int) - (t219.size : Int)))]) := ⟨_, rfl⟩
              replace H : ((dynamic_Names.f kj23 (x8_5 ++ (⟨#[109, 111, 114, 101, 0]⟩ : ByteArray)) y247 (t219.size : Int) (wrap64 ((x8_5.size : Int) - (t219.size : Int))) 0 0 0 0 0 0).bind fun bt250 => (if t218 = true then (if t244 = true then (if t243 = 0 then (if t246 = true then (some false) else (some (bt250.2 == 17))) else (some false)) else (some false)) else (some false))) = some r := by first | (rw [hy247]; with_reducible exact H) | (have H2_ := (Option.bind_some _ _).symm.trans H; rw [hy247]; with_reducible exact H2_) | (have H2_ := (Option.bind_some _ _).symm.trans H; with_reducible exact H2_) | with_reducible exact H | (rw [hy247]; exact H) | exact H
              have Ny247 := Aside0.mk hy247
              clear hy247
              replace H := Option.bind_eq_some_iff.mp H
              obtain ⟨⟨t250, t253⟩, A500, H⟩ := H
              replace H : (if t218 = true then (if t244 = true then (if t243 = 0 then (if t246 = true then (some false) else (some (t253 == 17))) else (some false)) else (some false)) else (some false)) = some r := H
              have A50 := Aside0.mk A500
              clear A500
              by_cases c51 : t218 = true
              · subst c51
                have H1 : (if t244 = true then (if t243 = 0 then (if t246 = true then (some false) else (some (t253 == 17))) else (some false)) else (some false)) = some r := by rw [if_pos rfl] at H; exact H
                clear H
                have H := H1
                clear H1
                by_cases c52 : t244 = true
                · subst c52
                  have H1 : (if t243 = 0 then (if t246 = true then (some false) else (some (t253 == 17))) else (some false)) = some r := by rw [if_pos rfl] at H; exact H
                  clear H
                  have H := H1
                  clear H1
                  by_cases c53 : t243 = 0
                  · rw [if_pos c53] at H
                    have c53b0 : (t243 == 0) = true := beq_iff_eq.mpr c53
                    have c53b1 : (t243 != 0) = false := bne_eq_false_iff_eq.mpr c53
                    clear c53
                    by_cases c54 : t246 = true
                    · subst c54
                      have H1 : (some false) = some r := by rw [if_pos rfl] at H; exact H
                      clear H
                      have H := H1
                      clear H1
                      obtain rfl := Option.some.inj H
                      have hcz55_0 : wc.cell? ⟨gb220, 0, none⟩ = some (u221000) := (blk_cell BK220.out 0).trans rfl
                      have hcz55_1 : wc.cell? ⟨gb220, 1, none⟩ = some (.int .i64 (t219.size : Int)) := (blk_cell BK220.out 1).trans rfl
                      have hcz55_2 : wc.cell? ⟨gb220, 2, none⟩ = some (.int .i64 (wrap64 ((x8_5.size : Int) - (t219.size : Int)))) := (blk_cell BK220.out 2).trans rfl
                      have hcz55_3 : wc.cell? ⟨gb220, 3, none⟩ = some (.int .i64 0) := (blk_cell BK220.out 3).trans rfl
                      have hcz55_4 : wc.cell? ⟨gb220, 4, none⟩ = some (.int .i64 0) := (blk_cell BK220.out 4).trans rfl
                      have hcz55_5 : wc.cell? ⟨gb220, 5, none⟩ = some (.int .i64 0) := (blk_cell BK220.out 5).trans rfl
                      have hcz55_6 : wc.cell? ⟨gb220, 6, none⟩ = some (.int .i64 0) := (blk_cell BK220.out 6).trans rfl
                      have hcz55_7 : wc.cell? ⟨gb220, 7, none⟩ = some (.int .i64 0) := (blk_cell BK220.out 7).trans rfl
                      have hcz55_8 : wc.cell? ⟨gb220, 8, none⟩ = some (.int .i64 0) := (blk_cell BK220.out 8).trans rfl
                      have hfz55_0 := blk_frozen BK220.out 0
                      have hfz55_1 := blk_frozen BK220.out 1
                      have hfz55_2 := blk_frozen BK220.out 2
                      have hfz55_3 := blk_frozen BK220.out 3
                      have hfz55_4 := blk_frozen BK220.out 4
                      have hfz55_5 := blk_frozen BK220.out 5
                      have hfz55_6 := blk_frozen BK220.out 6
                      have hfz55_7 := blk_frozen BK220.out 7
                      have hfz55_8 := blk_frozen BK220.out 8
                      obtain ⟨Ao56, co56, eo56⟩ := Kd.R_slice HO_221000.out
                      subst eo56
                      go_wp2_with (first | ((with_reducible refine gate_callee (f := 53) rfl ?_); refine goesL_ (some 123) rfl rfl Try.func53 (by kernel_rfl) rfl #[.string (x8_5 ++ (⟨#[109, 111, 114, 101, 0]⟩ : ByteArray)), .agg #[.slice Ao56 x221000_23.length co56, .int .i64 (t219.size : Int), .int .i64 (wrap64 ((x8_5.size : Int) - (t219.size : Int))), .int .i64 0, .int .i64 0, .int .i64 0, .int .i64 0, .int .i64 0, .int .i64 0]] rfl (by (try simp only [List.map_toArray, List.map_cons, List.map_nil]); first | done | rfl | (simp only [List.length_drop, List.length_take]; rfl)) ?_; (with_reducible refine (dynamic_Names.calls kj23 (x8_5 ++ (⟨#[109, 111, 114, 101, 0]⟩ : ByteArray)) _ _ x221000_23 (t219.size : Int) (wrap64 ((x8_5.size : Int) - (t219.size : Int))) 0 0 0 0 0 0 t240 t243 _ ?side1 ?side2 A46.out).mono ?_); (case side1 => repeat (first | exact (Kd.R_reads' HO_221000.out).2.2 | (with_reducible refine Kd.C_alloc ?_ _) | (with_reducible refine Kd.C_drewN ?_ _) | (with_reducible refine Kd.C_drew ?_))); (case side2 => exact (Kd.R_reads' HO_221000.out).2.1); rintro e w57 ⟨v241, rfl, ho0, hb⟩; refine ⟨_, rfl, ?_⟩; have n0_ := Aside0.mk (Kd.R_elder' (by (with_reducible repeat (first | apply Kd.R_alloc | apply Kd.R_drewN | apply Kd.R_drew)); exact HO_14.out) (Kd.R_base ho0) hb); have n1_ := Aside0.mk (Kd.R_below (by (with_reducible repeat (first | apply Kd.R_alloc | apply Kd.R_drewN | apply Kd.R_drew)); exact HO_221000.out) hb); have n2_ := Aside0.mk (Kd.R_lower (Kd.R_new' ho0 (Kd.R_lt (by (with_reducible repeat (first | apply Kd.R_alloc | apply Kd.R_drewN | apply Kd.R_drew)); exact HO_14.out))) (below_size (by repeat (first | (with_reducible first | exact HB.out | apply below_alloc | apply pw_below_drewN | apply below_drew1 | refine below_set ?_ GE220.out) | exact HB.out)))); have n3_ := Aside0.mk (blk_below (g := gb220) (o := .cells #[.slice Ao56 x221000_23.length co56, .int .i64 (t219.size : Int), .int .i64 (wrap64 ((x8_5.size : Int) - (t219.size : Int))), .int .i64 0, .int .i64 0, .int .i64 0, .int .i64 0, .int .i64 0, .int .i64 0] 54 (0, 0)) (by (with_reducible repeat (first | refine blk_drewN ?_ _ | refine blk_drew ?_ | refine blk_alloc ?_ _)); exact BK220.out) hb); have n4_ := Aside0.mk (below_step (by repeat (first | (with_reducible first | exact HB.out | apply below_alloc | apply pw_below_drewN | apply below_drew1 | refine below_set ?_ GE220.out) | exact HB.out)) hb); clear HO_14; clear HO_221000; clear BK220; clear HB; have HO_14 := n0_; have HO_221000 := n1_; have HO242 := n2_; have BK220 := n3_; have HB := n4_; clear n0_ n1_ n2_ n3_ n4_; (try clear hb); (try clear hb2); (try clear hk); (try clear hi); (try clear ho0); obtain ⟨Ao58, co58, eo58⟩ := Kd.R_slice HO242.out; subst eo58; obtain ⟨Ao59, co59, eo59⟩ := Kd.R_slice HO_14.out; subst eo59) | ((with_reducible refine gate_callee (f := 54) rfl ?_); refine goesL_ (some 128) rfl rfl Try.func54 (by kernel_rfl) rfl #[.slice Ao58 t240.length co58, .slice Ao59 x14_23.length co59] rfl (by (try simp only [List.map_toArray, List.map_cons, List.map_nil]); first | done | rfl | (simp only [List.length_drop, List.length_take]; rfl)) ?_; (with_reducible refine (flyleafref09_SameTexts.calls kj23 _ _ t240 _ _ x14_23 true _ ?side1 ?side2 ?side3 ?side4 A47.out).mono ?_); (case side1 => repeat (first | exact (Kd.R_reads' HO242.out).2.2 | (with_reducible refine Kd.C_alloc ?_ _) | (with_reducible refine Kd.C_drewN ?_ _) | (with_reducible refine Kd.C_drew ?_))); (case side2 => exact (Kd.R_reads' HO242.out).2.1); (case side3 => repeat (first | exact (Kd.R_reads' HO_14.out).2.2 | (with_reducible refine Kd.C_alloc ?_ _) | (with_reducible refine Kd.C_drewN ?_ _) | (with_reducible refine Kd.C_drew ?_))); (case side4 => exact (Kd.R_reads' HO_14.out).2.1); rintro e w' ⟨rfl, ⟨nd, rfl⟩⟩; refine ⟨_, rfl, ?_⟩; (try (rw [drewN_self w57]; generalize hq_ : World.drewN w57 _ = w57; have n0_ : Aside0 (Kd.R Kd.string 9 w57 w.heap.size (fun k_ => some k_ ≠ (.slice Ao59 x14_23.length co59 : Value).ownBlock) (.slice Ao58 t240.length co58) t240) := ⟨by rw [← hq_]; exact (by (with_reducible repeat (first | apply Kd.R_alloc | apply Kd.R_drewN | apply Kd.R_drew)); exact Kd.R_mono HO242.out (fun _ hk => hk.2))⟩; have n1_ : Aside0 (Kd.R Kd.string 9 w57 w.heap.size (fun k_ => some k_ ≠ (.slice Ao58 t240.length co58 : Value).ownBlock) (.slice Ao59 x14_23.length co59) x14_23) := ⟨by rw [← hq_]; exact (by (with_reducible repeat (first | apply Kd.R_alloc | apply Kd.R_drewN | apply Kd.R_drew)); exact Kd.R_mono HO_14.out (fun _ hk => hk.2))⟩; have n2_ : Aside0 (Kd.R (Kd.int .i64) 3 w57 w.heap.size (fun _ => True) (.slice Ao56 x221000_23.length co56) x221000_23) := ⟨by rw [← hq_]; exact (by (with_reducible repeat (first | apply Kd.R_alloc | apply Kd.R_drewN | apply Kd.R_drew)); exact HO_221000.out)⟩; have n3_ : Aside0 (w57.heap[gb220]? = some (.cells #[.slice Ao56 x221000_23.length co56, .int .i64 (t219.size : Int), .int .i64 (wrap64 ((x8_5.size : Int) - (t219.size : Int))), .int .i64 0, .int .i64 0, .int .i64 0, .int .i64 0, .int .i64 0, .int .i64 0] 54 (0, 0))) := ⟨by rw [← hq_]; exact (by (with_reducible repeat (first | refine blk_drewN ?_ _ | refine blk_drew ?_ | refine blk_alloc ?_ _)); exact BK220.out)⟩; have n4_ : Aside0 (Below w.heap.size w w57) := ⟨by rw [← hq_]; exact (by repeat (first | (with_reducible first | exact HB.out | apply below_alloc | apply pw_below_drewN | apply below_drew1 | refine below_set ?_ GE220.out) | exact HB.out))⟩; clear HO242 HO_14 HO_221000 BK220 HB hq_; have HO242 := n0_; have HO_14 := n1_; have HO_221000 := n2_; have BK220 := n3_; have HB := n4_; clear n0_ n1_ n2_ n3_ n4_)); have hcz60_0 : w57.cell? ⟨gb220, 0, none⟩ = some (.slice Ao56 x221000_23.length co56) := (blk_cell BK220.out 0).trans rfl; have hcz60_1 : w57.cell? ⟨gb220, 1, none⟩ = some (.int .i64 (t219.size : Int)) := (blk_cell BK220.out 1).trans rfl; have hcz60_2 : w57.cell? ⟨gb220, 2, none⟩ = some (.int .i64 (wrap64 ((x8_5.size : Int) - (t219.size : Int)))) := (blk_cell BK220.out 2).trans rfl; have hcz60_3 : w57.cell? ⟨gb220, 3, none⟩ = some (.int .i64 0) := (blk_cell BK220.out 3).trans rfl; have hcz60_4 : w57.cell? ⟨gb220, 4, none⟩ = some (.int .i64 0) := (blk_cell BK220.out 4).trans rfl; have hcz60_5 : w57.cell? ⟨gb220, 5, none⟩ = some (.int .i64 0) := (blk_cell BK220.out 5).trans rfl; have hcz60_6 : w57.cell? ⟨gb220, 6, none⟩ = some (.int .i64 0) := (blk_cell BK220.out 6).trans rfl; have hcz60_7 : w57.cell? ⟨gb220, 7, none⟩ = some (.int .i64 0) := (blk_cell BK220.out 7).trans rfl; have hcz60_8 : w57.cell? ⟨gb220, 8, none⟩ = some (.int .i64 0) := (blk_cell BK220.out 8).trans rfl; have hfz60_0 := blk_frozen BK220.out 0; have hfz60_1 := blk_frozen BK220.out 1; have hfz60_2 := blk_frozen BK220.out 2; have hfz60_3 := blk_frozen BK220.out 3; have hfz60_4 := blk_frozen BK220.out 4; have hfz60_5 := blk_frozen BK220.out 5; have hfz60_6 := blk_frozen BK220.out 6; have hfz60_7 := blk_frozen BK220.out 7; have hfz60_8 := blk_frozen BK220.out 8) | ((with_reducible refine gate_callee (f := 55) rfl ?_); refine goesL_ (some 135) rfl rfl Try.func55 (by kernel_rfl) rfl #[.string (x8_5 ++ (⟨#[109, 111, 114, 101, 0]⟩ : ByteArray)), .agg #[.slice Ao56 x221000_23.length co56, .int .i64 (t219.size : Int), .int .i64 (wrap64 ((x8_5.size : Int) - (t219.size : Int))), .int .i64 0, .int .i64 0, .int .i64 0, .int .i64 0, .int .i64 0, .int .i64 0], .int .i64 (wrap64 ((x8_5.size : Int) - (t219.size : Int)))] rfl (by (try simp only [List.map_toArray, List.map_cons, List.map_nil]); first | done | rfl | (simp only [List.length_drop, List.length_take]; rfl)) ?_; (with_reducible refine (dynamic_Name.calls kj23 (x8_5 ++ (⟨#[109, 111, 114, 101, 0]⟩ : ByteArray)) _ _ x221000_23 (t219.size : Int) (wrap64 ((x8_5.size : Int) - (t219.size : Int))) 0 0 0 0 0 0 (wrap64 ((x8_5.size : Int) - (t219.size : Int))) t245 true _ ?side1 ?side2 A48.out).mono ?_); (case side1 => repeat (first | exact (Kd.R_reads' HO_221000.out).2.2 | (with_reducible refine Kd.C_alloc ?_ _) | (with_reducible refine Kd.C_drewN ?_ _) | (with_reducible refine Kd.C_drew ?_))); (case side2 => exact (Kd.R_reads' HO_221000.out).2.1); rintro e w61 ⟨rfl, hb⟩; refine ⟨_, rfl, ?_⟩; have n0_ := Aside0.mk (Kd.R_below (by (with_reducible repeat (first | apply Kd.R_alloc | apply Kd.R_drewN | apply Kd.R_drew)); exact HO_14.out) hb); have n1_ := Aside0.mk (Kd.R_below (by (with_reducible repeat (first | apply Kd.R_alloc | apply Kd.R_drewN | apply Kd.R_drew)); exact HO_221000.out) hb); have n2_ := Aside0.mk (Kd.R_below (by (with_reducible repeat (first | apply Kd.R_alloc | apply Kd.R_drewN | apply Kd.R_drew)); exact HO242.out) hb); have n3_ := Aside0.mk (blk_below (g := gb220) (o := .cells #[.slice Ao56 x221000_23.length co56, .int .i64 (t219.size : Int), .int .i64 (wrap64 ((x8_5.size : Int) - (t219.size : Int))), .int .i64 0, .int .i64 0, .int .i64 0, .int .i64 0, .int .i64 0, .int .i64 0] 54 (0, 0)) (by (with_reducible repeat (first | refine blk_drewN ?_ _ | refine blk_drew ?_ | refine blk_alloc ?_ _)); exact BK220.out) hb); have n4_ := Aside0.mk (below_step (by repeat (first | (with_reducible first | exact HB.out | apply below_alloc | apply pw_below_drewN | apply below_drew1 | refine below_set ?_ GE220.out) | exact HB.out)) hb); clear HO_14; clear HO_221000; clear HO242; clear BK220; clear HB; have HO_14 := n0_; have HO_221000 := n1_; have HO242 := n2_; have BK220 := n3_; have HB := n4_; clear n0_ n1_ n2_ n3_ n4_; (try clear hb); (try clear hb2); (try clear hk); (try clear hi); have hcz62_0 : w61.cell? ⟨gb220, 0, none⟩ = some (.slice Ao56 x221000_23.length co56) := (blk_cell BK220.out 0).trans rfl; have hcz62_1 : w61.cell? ⟨gb220, 1, none⟩ = some (.int .i64 (t219.size : Int)) := (blk_cell BK220.out 1).trans rfl; have hcz62_2 : w61.cell? ⟨gb220, 2, none⟩ = some (.int .i64 (wrap64 ((x8_5.size : Int) - (t219.size : Int)))) := (blk_cell BK220.out 2).trans rfl; have hcz62_3 : w61.cell? ⟨gb220, 3, none⟩ = some (.int .i64 0) := (blk_cell BK220.out 3).trans rfl; have hcz62_4 : w61.cell? ⟨gb220, 4, none⟩ = some (.int .i64 0) := (blk_cell BK220.out 4).trans rfl; have hcz62_5 : w61.cell? ⟨gb220, 5, none⟩ = some (.int .i64 0) := (blk_cell BK220.out 5).trans rfl; have hcz62_6 : w61.cell? ⟨gb220, 6, none⟩ = some (.int .i64 0) := (blk_cell BK220.out 6).trans rfl; have hcz62_7 : w61.cell? ⟨gb220, 7, none⟩ = some (.int .i64 0) := (blk_cell BK220.out 7).trans rfl; have hcz62_8 : w61.cell? ⟨gb220, 8, none⟩ = some (.int .i64 0) := (blk_cell BK220.out 8).trans rfl; have hfz62_0 := blk_frozen BK220.out 0; have hfz62_1 := blk_frozen BK220.out 1; have hfz62_2 := blk_frozen BK220.out 2; have hfz62_3 := blk_frozen BK220.out 3; have hfz62_4 := blk_frozen BK220.out 4; have hfz62_5 := blk_frozen BK220.out 5; have hfz62_6 := blk_frozen BK220.out 6; have hfz62_7 := blk_frozen BK220.out 7; have hfz62_8 := blk_frozen BK220.out 8) | ((with_reducible refine gate_builtin (b := .append) (xs := #[.tmp 139, .tmp 142]) rfl ?_); (try (refine gate_guard (by rfl) ?_; dsimp only)); at_builtin; refine Kd.R_append (Kd.int .i64) (w0 := w) w.heap.size rfl (.tmp 139) (.tmp 142) 25 3 (.int .i64 0) 8 rfl Try.underlying25 info3 rfl (by decide) (by omega) (.slice Ao56 x221000_23.length co56) x221000_23 (wrap64 ((x8_5.size : Int) - (t219.size : Int))) [.int .i64 (wrap64 ((x8_5.size : Int) - (t219.size : Int)))] (fun _ => True) (fun _ => False) rfl rfl ?aP (fun _ hk => hk.elim) ?aF ?aO ?aB ?aS ?aL ?_; (case aP => exact rfl); (case aB => exact (by repeat (first | (with_reducible first | exact HB.out | apply below_alloc | apply pw_below_drewN | apply below_drew1 | refine below_set ?_ GE220.out) | exact HB.out))); (case aF => exact (fun _ _ => trivial)); (case aO => exact (by (with_reducible repeat (first | apply Kd.R_alloc | apply Kd.R_drewN | apply Kd.R_drew)); exact HO_221000.out)); (case aS => exact (below_size (by repeat (first | (with_reducible first | exact HB.out | apply below_alloc | apply pw_below_drewN | apply below_drew1 | refine below_set ?_ GE220.out) | exact HB.out)))); (case aL => have := LMc49.out; omega); intro v248 w63 ho hb hg hat; rw [← Ny247.out] at ho; have n0_ := Aside0.mk (Kd.R_over' (by (with_reducible repeat (first | apply Kd.R_alloc | apply Kd.R_drewN | apply Kd.R_drew)); exact HO_14.out) (Kd.R_typed (by (with_reducible repeat (first | apply Kd.R_alloc | apply Kd.R_drewN | apply Kd.R_drew)); exact HO_221000.out)) (by decide) hg); have n1_ := Aside0.mk (blk_grown (g := gb220) (o := .cells #[.slice Ao56 x221000_23.length co56, .int .i64 (t219.size : Int), .int .i64 (wrap64 ((x8_5.size : Int) - (t219.size : Int))), .int .i64 0, .int .i64 0, .int .i64 0, .int .i64 0, .int .i64 0, .int .i64 0] 54 (0, 0)) (by (with_reducible repeat (first | refine blk_drewN ?_ _ | refine blk_drew ?_ | refine blk_alloc ?_ _)); exact BK220.out) hg (Kd.R_ne HO_221000.out BK220.out (by decide))); have n2_ := Aside0.mk (Kd.R_over' (by (with_reducible repeat (first | apply Kd.R_alloc | apply Kd.R_drewN | apply Kd.R_drew)); exact HO242.out) (Kd.R_typed (by (with_reducible repeat (first | apply Kd.R_alloc | apply Kd.R_drewN | apply Kd.R_drew)); exact HO_221000.out)) (by decide) hg); have n3_ := Aside0.mk (hb); have n4_ := Aside0.mk (ho); clear HO_14; clear BK220; clear HO242; clear HB; clear HO_221000; have HO_14 := n0_; have BK220 := n1_; have HO242 := n2_; have HB := n3_; have HO249 := n4_; clear n0_ n1_ n2_ n3_ n4_; clear ho hb hg hat; obtain ⟨Ao64, co64, eo64⟩ := Kd.R_slice HO249.out; subst eo64; have hcz65_0 : w63.cell? ⟨gb220, 0, none⟩ = some (.slice Ao56 x221000_23.length co56) := (blk_cell BK220.out 0).trans rfl; have hcz65_1 : w63.cell? ⟨gb220, 1, none⟩ = some (.int .i64 (t219.size : Int)) := (blk_cell BK220.out 1).trans rfl; have hcz65_2 : w63.cell? ⟨gb220, 2, none⟩ = some (.int .i64 (wrap64 ((x8_5.size : Int) - (t219.size : Int)))) := (blk_cell BK220.out 2).trans rfl; have hcz65_3 : w63.cell? ⟨gb220, 3, none⟩ = some (.int .i64 0) := (blk_cell BK220.out 3).trans rfl; have hcz65_4 : w63.cell? ⟨gb220, 4, none⟩ = some (.int .i64 0) := (blk_cell BK220.out 4).trans rfl; have hcz65_5 : w63.cell? ⟨gb220, 5, none⟩ = some (.int .i64 0) := (blk_cell BK220.out 5).trans rfl; have hcz65_6 : w63.cell? ⟨gb220, 6, none⟩ = some (.int .i64 0) := (blk_cell BK220.out 6).trans rfl; have hcz65_7 : w63.cell? ⟨gb220, 7, none⟩ = some (.int .i64 0) := (blk_cell BK220.out 7).trans rfl; have hcz65_8 : w63.cell? ⟨gb220, 8, none⟩ = some (.int .i64 0) := (blk_cell BK220.out 8).trans rfl; have hfz65_0 := blk_frozen BK220.out 0; have hfz65_1 := blk_frozen BK220.out 1; have hfz65_2 := blk_frozen BK220.out 2; have hfz65_3 := blk_frozen BK220.out 3; have hfz65_4 := blk_frozen BK220.out 4; have hfz65_5 := blk_frozen BK220.out 5; have hfz65_6 := blk_frozen BK220.out 6; have hfz65_7 := blk_frozen BK220.out 7; have hfz65_8 := blk_frozen BK220.out 8) | ((with_reducible refine gate_callee (f := 53) rfl ?_); refine goesL_ (some 149) rfl rfl Try.func53 (by kernel_rfl) rfl #[.string (x8_5 ++ (⟨#[109, 111, 114, 101, 0]⟩ : ByteArray)), .agg #[.slice Ao64 y247.length co64, .int .i64 (t219.size : Int), .int .i64 (wrap64 ((x8_5.size : Int) - (t219.size : Int))), .int .i64 0, .int .i64 0, .int .i64 0, .int .i64 0, .int .i64 0, .int .i64 0]] rfl (by (try simp only [List.map_toArray, List.map_cons, List.map_nil]); first | done | rfl | (simp only [List.length_drop, List.length_take]; rfl)) ?_; (with_reducible refine (dynamic_Names.calls kj23 (x8_5 ++ (⟨#[109, 111, 114, 101, 0]⟩ : ByteArray)) _ _ y247 (t219.size : Int) (wrap64 ((x8_5.size : Int) - (t219.size : Int))) 0 0 0 0 0 0 t250 t253 _ ?side1 ?side2 A50.out).mono ?_); (case side1 => refine (Kd.R_reads' (e := 3) (base := w.heap.size) (ok := fun k_ => True) (n := y247.length) (c := co64) ?_).2.2; exact (by (with_reducible repeat (first | apply Kd.R_alloc | apply Kd.R_drewN | apply Kd.R_drew)); exact (Kd.R_mono (Kd.R_far (p := ⟨gb220, 0, none⟩) (Kd.R_types HO249.out BK220.out (by decide)) (fun _ hk => hk.2) (.slice Ao64 y247.length co64)) (fun _ h_ => h_.1)))); (case side2 => exact (Kd.R_reads' HO249.out).2.1); rintro e w66 ⟨v251, rfl, ho0, hb⟩; refine ⟨_, rfl, ?_⟩; have n0_ := Aside0.mk (Kd.R_elder' (by (with_reducible repeat (first | apply Kd.R_alloc | apply Kd.R_drewN | apply Kd.R_drew)); exact (Kd.R_mono (Kd.R_far (p := ⟨gb220, 0, none⟩) (Kd.R_types HO_14.out BK220.out (by decide)) (fun _ hk => hk.2) (.slice Ao64 y247.length co64)) (fun _ h_ => h_.1))) (Kd.R_base ho0) hb); have n1_ := Aside0.mk (Kd.R_elder' (by (with_reducible repeat (first | apply Kd.R_alloc | apply Kd.R_drewN | apply Kd.R_drew)); exact (Kd.R_mono (Kd.R_far (p := ⟨gb220, 0, none⟩) (Kd.R_types HO242.out BK220.out (by decide)) (fun _ hk => hk.2) (.slice Ao64 y247.length co64)) (fun _ h_ => h_.1))) (Kd.R_base ho0) hb); have n2_ := Aside0.mk (Kd.R_below (by (with_reducible repeat (first | apply Kd.R_alloc | apply Kd.R_drewN | apply Kd.R_drew)); exact (Kd.R_mono (Kd.R_far (p := ⟨gb220, 0, none⟩) (Kd.R_types HO249.out BK220.out (by decide)) (fun _ hk => hk.2) (.slice Ao64 y247.length co64)) (fun _ h_ => h_.1))) hb); have n3_ := Aside0.mk (Kd.R_lower (Kd.R_new' (Kd.R_new' ho0 (Kd.R_lt (by (with_reducible repeat (first | apply Kd.R_alloc | apply Kd.R_drewN | apply Kd.R_drew)); exact (Kd.R_mono (Kd.R_far (p := ⟨gb220, 0, none⟩) (Kd.R_types HO_14.out BK220.out (by decide)) (fun _ hk => hk.2) (.slice Ao64 y247.length co64)) (fun _ h_ => h_.1))))) (Kd.R_lt (by (with_reducible repeat (first | apply Kd.R_alloc | apply Kd.R_drewN | apply Kd.R_drew)); exact (Kd.R_mono (Kd.R_far (p := ⟨gb220, 0, none⟩) (Kd.R_types HO242.out BK220.out (by decide)) (fun _ hk => hk.2) (.slice Ao64 y247.length co64)) (fun _ h_ => h_.1))))) (below_size (by repeat (first | (with_reducible first | exact HB.out | apply below_alloc | apply pw_below_drewN | apply below_drew1 | refine below_set ?_ GE220.out) | exact HB.out)))); have n4_ := Aside0.mk (blk_below (g := gb220) (o := .cells #[.slice Ao64 y247.length co64, .int .i64 (t219.size : Int), .int .i64 (wrap64 ((x8_5.size : Int) - (t219.size : Int))), .int .i64 0, .int .i64 0, .int .i64 0, .int .i64 0, .int .i64 0, .int .i64 0] 54 (0, 0)) (by (with_reducible repeat (first | refine blk_drewN ?_ _ | refine blk_drew ?_ | refine blk_alloc ?_ _)); refine blk_put (cs := #[.slice Ao56 x221000_23.length co56, .int .i64 (t219.size : Int), .int .i64 (wrap64 ((x8_5.size : Int) - (t219.size : Int))), .int .i64 0, .int .i64 0, .int .i64 0, .int .i64 0, .int .i64 0, .int .i64 0]) ?_ 0 _ rfl; (with_reducible repeat (first | refine blk_drewN ?_ _ | refine blk_drew ?_ | refine blk_alloc ?_ _)); exact BK220.out) hb); have n5_ := Aside0.mk (below_step (by repeat (first | (with_reducible first | exact HB.out | apply below_alloc | apply pw_below_drewN | apply below_drew1 | refine below_set ?_ GE220.out) | exact HB.out)) hb); clear HO_14; clear HO242; clear HO249; clear BK220; clear HB; have HO_14 := n0_; have HO242 := n1_; have HO249 := n2_; have HO252 := n3_; have BK220 := n4_; have HB := n5_; clear n0_ n1_ n2_ n3_ n4_ n5_; (try clear hb); (try clear hb2); (try clear hk); (try clear hi); (try clear ho0)))
                      go_ret
                      exact ⟨by first | rfl | (simp [errW_none, errW_some] <;> rfl) | (simp [*, errW_none, errW_some] <;> rfl), by repeat (first | (with_reducible first | exact HB.out | apply below_alloc | apply pw_below_drewN | apply below_drew1 | refine below_set ?_ GE220.out) | exact HB.out)⟩
                    · replace c54 := Bool.eq_false_iff.mpr c54
                      subst c54
                      have H1 : (some (t253 == 17)) = some r := by rw [if_neg (show ¬ (false = true) by decide)] at H; exact H
                      clear H
                      have H := H1
                      clear H1
                      obtain rfl := Option.some.inj H
                      have hcz67_0 : wc.cell? ⟨gb220, 0, none⟩ = some (u221000) := (blk_cell BK220.out 0).trans rfl
                      have hcz67_1 : wc.cell? ⟨gb220, 1, none⟩ = some (.int .i64 (t219.size : Int)) := (blk_cell BK220.out 1).trans rfl
                      have hcz67_2 : wc.cell? ⟨gb220, 2, none⟩ = some (.int .i64 (wrap64 ((x8_5.size : Int) - (t219.size : Int)))) := (blk_cell BK220.out 2).trans rfl
                      have hcz67_3 : wc.cell? ⟨gb220, 3, none⟩ = some (.int .i64 0) := (blk_cell BK220.out 3).trans rfl
                      have hcz67_4 : wc.cell? ⟨gb220, 4, none⟩ = some (.int .i64 0) := (blk_cell BK220.out 4).trans rfl
                      have hcz67_5 : wc.cell? ⟨gb220, 5, none⟩ = some (.int .i64 0) := (blk_cell BK220.out 5).trans rfl
                      have hcz67_6 : wc.cell? ⟨gb220, 6, none⟩ = some (.int .i64 0) := (blk_cell BK220.out 6).trans rfl
                      have hcz67_7 : wc.cell? ⟨gb220, 7, none⟩ = some (.int .i64 0) := (blk_cell BK220.out 7).trans rfl
                      have hcz67_8 : wc.cell? ⟨gb220, 8, none⟩ = some (.int .i64 0) := (blk_cell BK220.out 8).trans rfl
                      have hfz67_0 := blk_frozen BK220.out 0
                      have hfz67_1 := blk_frozen BK220.out 1
                      have hfz67_2 := blk_frozen BK220.out 2
                      have hfz67_3 := blk_frozen BK220.out 3
                      have hfz67_4 := blk_frozen BK220.out 4
                      have hfz67_5 := blk_frozen BK220.out 5
                      have hfz67_6 := blk_frozen BK220.out 6
                      have hfz67_7 := blk_frozen BK220.out 7
                      have hfz67_8 := blk_frozen BK220.out 8
                      obtain ⟨Ao68, co68, eo68⟩ := Kd.R_slice HO_221000.out
                      subst eo68
                      go_wp2_with (first | ((with_reducible refine gate_callee (f := 53) rfl ?_); refine goesL_ (some 123) rfl rfl Try.func53 (by kernel_rfl) rfl #[.string (x8_5 ++ (⟨#[109, 111, 114, 101, 0]⟩ : ByteArray)), .agg #[.slice Ao68 x221000_23.length co68, .int .i64 (t219.size : Int), .int .i64 (wrap64 ((x8_5.size : Int) - (t219.size : Int))), .int .i64 0, .int .i64 0, .int .i64 0, .int .i64 0, .int .i64 0, .int .i64 0]] rfl (by (try simp only [List.map_toArray, List.map_cons, List.map_nil]); first | done | rfl | (simp only [List.length_drop, List.length_take]; rfl)) ?_; (with_reducible refine (dynamic_Names.calls kj23 (x8_5 ++ (⟨#[109, 111, 114, 101, 0]⟩ : ByteArray)) _ _ x221000_23 (t219.size : Int) (wrap64 ((x8_5.size : Int) - (t219.size : Int))) 0 0 0 0 0 0 t240 t243 _ ?side1 ?side2 A46.out).mono ?_); (case side1 => repeat (first | exact (Kd.R_reads' HO_221000.out).2.2 | (with_reducible refine Kd.C_alloc ?_ _) | (with_reducible refine Kd.C_drewN ?_ _) | (with_reducible refine Kd.C_drew ?_))); (case side2 => exact (Kd.R_reads' HO_221000.out).2.1); rintro e w69 ⟨v241, rfl, ho0, hb⟩; refine ⟨_, rfl, ?_⟩; have n0_ := Aside0.mk (Kd.R_elder' (by (with_reducible repeat (first | apply Kd.R_alloc | apply Kd.R_drewN | apply Kd.R_drew)); exact HO_14.out) (Kd.R_base ho0) hb); have n1_ := Aside0.mk (Kd.R_below (by (with_reducible repeat (first | apply Kd.R_alloc | apply Kd.R_drewN | apply Kd.R_drew)); exact HO_221000.out) hb); have n2_ := Aside0.mk (Kd.R_lower (Kd.R_new' ho0 (Kd.R_lt (by (with_reducible repeat (first | apply Kd.R_alloc | apply Kd.R_drewN | apply Kd.R_drew)); exact HO_14.out))) (below_size (by repeat (first | (with_reducible first | exact HB.out | apply below_alloc | apply pw_below_drewN | apply below_drew1 | refine below_set ?_ GE220.out) | exact HB.out)))); have n3_ := Aside0.mk (blk_below (g := gb220) (o := .cells #[.slice Ao68 x221000_23.length co68, .int .i64 (t219.size : Int), .int .i64 (wrap64 ((x8_5.size : Int) - (t219.size : Int))), .int .i64 0, .int .i64 0, .int .i64 0, .int .i64 0, .int .i64 0, .int .i64 0] 54 (0, 0)) (by (with_reducible repeat (first | refine blk_drewN ?_ _ | refine blk_drew ?_ | refine blk_alloc ?_ _)); exact BK220.out) hb); have n4_ := Aside0.mk (below_step (by repeat (first | (with_reducible first | exact HB.out | apply below_alloc | apply pw_below_drewN | apply below_drew1 | refine below_set ?_ GE220.out) | exact HB.out)) hb); clear HO_14; clear HO_221000; clear BK220; clear HB; have HO_14 := n0_; have HO_221000 := n1_; have HO242 := n2_; have BK220 := n3_; have HB := n4_; clear n0_ n1_ n2_ n3_ n4_; (try clear hb); (try clear hb2); (try clear hk); (try clear hi); (try clear ho0); obtain ⟨Ao70, co70, eo70⟩ := Kd.R_slice HO242.out; subst eo70; obtain ⟨Ao71, co71, eo71⟩ := Kd.R_slice HO_14.out; subst eo71) | ((with_reducible refine gate_callee (f := 54) rfl ?_); refine goesL_ (some 128) rfl rfl Try.func54 (by kernel_rfl) rfl #[.slice Ao70 t240.length co70, .slice Ao71 x14_23.length co71] rfl (by (try simp only [List.map_toArray, List.map_cons, List.map_nil]); first | done | rfl | (simp only [List.length_drop, List.length_take]; rfl)) ?_; (with_reducible refine (flyleafref09_SameTexts.calls kj23 _ _ t240 _ _ x14_23 true _ ?side1 ?side2 ?side3 ?side4 A47.out).mono ?_); (case side1 => repeat (first | exact (Kd.R_reads' HO242.out).2.2 | (with_reducible refine Kd.C_alloc ?_ _) | (with_reducible refine Kd.C_drewN ?_ _) | (with_reducible refine Kd.C_drew ?_))); (case side2 => exact (Kd.R_reads' HO242.out).2.1); (case side3 => repeat (first | exact (Kd.R_reads' HO_14.out).2.2 | (with_reducible refine Kd.C_alloc ?_ _) | (with_reducible refine Kd.C_drewN ?_ _) | (with_reducible refine Kd.C_drew ?_))); (case side4 => exact (Kd.R_reads' HO_14.out).2.1); rintro e w' ⟨rfl, ⟨nd, rfl⟩⟩; refine ⟨_, rfl, ?_⟩; (try (rw [drewN_self w69]; generalize hq_ : World.drewN w69 _ = w69; have n0_ : Aside0 (Kd.R Kd.string 9 w69 w.heap.size (fun k_ => some k_ ≠ (.slice Ao71 x14_23.length co71 : Value).ownBlock) (.slice Ao70 t240.length co70) t240) := ⟨by rw [← hq_]; exact (by (with_reducible repeat (first | apply Kd.R_alloc | apply Kd.R_drewN | apply Kd.R_drew)); exact Kd.R_mono HO242.out (fun _ hk => hk.2))⟩; have n1_ : Aside0 (Kd.R Kd.string 9 w69 w.heap.size (fun k_ => some k_ ≠ (.slice Ao70 t240.length co70 : Value).ownBlock) (.slice Ao71 x14_23.length co71) x14_23) := ⟨by rw [← hq_]; exact (by (with_reducible repeat (first | apply Kd.R_alloc | apply Kd.R_drewN | apply Kd.R_drew)); exact Kd.R_mono HO_14.out (fun _ hk => hk.2))⟩; have n2_ : Aside0 (Kd.R (Kd.int .i64) 3 w69 w.heap.size (fun _ => True) (.slice Ao68 x221000_23.length co68) x221000_23) := ⟨by rw [← hq_]; exact (by (with_reducible repeat (first | apply Kd.R_alloc | apply Kd.R_drewN | apply Kd.R_drew)); exact HO_221000.out)⟩; have n3_ : Aside0 (w69.heap[gb220]? = some (.cells #[.slice Ao68 x221000_23.length co68, .int .i64 (t219.size : Int), .int .i64 (wrap64 ((x8_5.size : Int) - (t219.size : Int))), .int .i64 0, .int .i64 0, .int .i64 0, .int .i64 0, .int .i64 0, .int .i64 0] 54 (0, 0))) := ⟨by rw [← hq_]; exact (by (with_reducible repeat (first | refine blk_drewN ?_ _ | refine blk_drew ?_ | refine blk_alloc ?_ _)); exact BK220.out)⟩; have n4_ : Aside0 (Below w.heap.size w w69) := ⟨by rw [← hq_]; exact (by repeat (first | (with_reducible first | exact HB.out | apply below_alloc | apply pw_below_drewN | apply below_drew1 | refine below_set ?_ GE220.out) | exact HB.out))⟩; clear HO242 HO_14 HO_221000 BK220 HB hq_; have HO242 := n0_; have HO_14 := n1_; have HO_221000 := n2_; have BK220 := n3_; have HB := n4_; clear n0_ n1_ n2_ n3_ n4_)); have hcz72_0 : w69.cell? ⟨gb220, 0, none⟩ = some (.slice Ao68 x221000_23.length co68) := (blk_cell BK220.out 0).trans rfl; have hcz72_1 : w69.cell? ⟨gb220, 1, none⟩ = some (.int .i64 (t219.size : Int)) := (blk_cell BK220.out 1).trans rfl; have hcz72_2 : w69.cell? ⟨gb220, 2, none⟩ = some (.int .i64 (wrap64 ((x8_5.size : Int) - (t219.size : Int)))) := (blk_cell BK220.out 2).trans rfl; have hcz72_3 : w69.cell? ⟨gb220, 3, none⟩ = some (.int .i64 0) := (blk_cell BK220.out 3).trans rfl; have hcz72_4 : w69.cell? ⟨gb220, 4, none⟩ = some (.int .i64 0) := (blk_cell BK220.out 4).trans rfl; have hcz72_5 : w69.cell? ⟨gb220, 5, none⟩ = some (.int .i64 0) := (blk_cell BK220.out 5).trans rfl; have hcz72_6 : w69.cell? ⟨gb220, 6, none⟩ = some (.int .i64 0) := (blk_cell BK220.out 6).trans rfl; have hcz72_7 : w69.cell? ⟨gb220, 7, none⟩ = some (.int .i64 0) := (blk_cell BK220.out 7).trans rfl; have hcz72_8 : w69.cell? ⟨gb220, 8, none⟩ = some (.int .i64 0) := (blk_cell BK220.out 8).trans rfl; have hfz72_0 := blk_frozen BK220.out 0; have hfz72_1 := blk_frozen BK220.out 1; have hfz72_2 := blk_frozen BK220.out 2; have hfz72_3 := blk_frozen BK220.out 3; have hfz72_4 := blk_frozen BK220.out 4; have hfz72_5 := blk_frozen BK220.out 5; have hfz72_6 := blk_frozen BK220.out 6; have hfz72_7 := blk_frozen BK220.out 7; have hfz72_8 := blk_frozen BK220.out 8) | ((with_reducible refine gate_callee (f := 55) rfl ?_); refine goesL_ (some 135) rfl rfl Try.func55 (by kernel_rfl) rfl #[.string (x8_5 ++ (⟨#[109, 111, 114, 101, 0]⟩ : ByteArray)), .agg #[.slice Ao68 x221000_23.length co68, .int .i64 (t219.size : Int), .int .i64 (wrap64 ((x8_5.size : Int) - (t219.size : Int))), .int .i64 0, .int .i64 0, .int .i64 0, .int .i64 0, .int .i64 0, .int .i64 0], .int .i64 (wrap64 ((x8_5.size : Int) - (t219.size : Int)))] rfl (by (try simp only [List.map_toArray, List.map_cons, List.map_nil]); first | done | rfl | (simp only [List.length_drop, List.length_take]; rfl)) ?_; (with_reducible refine (dynamic_Name.calls kj23 (x8_5 ++ (⟨#[109, 111, 114, 101, 0]⟩ : ByteArray)) _ _ x221000_23 (t219.size : Int) (wrap64 ((x8_5.size : Int) - (t219.size : Int))) 0 0 0 0 0 0 (wrap64 ((x8_5.size : Int) - (t219.size : Int))) t245 false _ ?side1 ?side2 A48.out).mono ?_); (case side1 => repeat (first | exact (Kd.R_reads' HO_221000.out).2.2 | (with_reducible refine Kd.C_alloc ?_ _) | (with_reducible refine Kd.C_drewN ?_ _) | (with_reducible refine Kd.C_drew ?_))); (case side2 => exact (Kd.R_reads' HO_221000.out).2.1); rintro e w73 ⟨rfl, hb⟩; refine ⟨_, rfl, ?_⟩; have n0_ := Aside0.mk (Kd.R_below (by (with_reducible repeat (first | apply Kd.R_alloc | apply Kd.R_drewN | apply Kd.R_drew)); exact HO_14.out) hb); have n1_ := Aside0.mk (Kd.R_below (by (with_reducible repeat (first | apply Kd.R_alloc | apply Kd.R_drewN | apply Kd.R_drew)); exact HO_221000.out) hb); have n2_ := Aside0.mk (Kd.R_below (by (with_reducible repeat (first | apply Kd.R_alloc | apply Kd.R_drewN | apply Kd.R_drew)); exact HO242.out) hb); have n3_ := Aside0.mk (blk_below (g := gb220) (o := .cells #[.slice Ao68 x221000_23.length co68, .int .i64 (t219.size : Int), .int .i64 (wrap64 ((x8_5.size : Int) - (t219.size : Int))), .int .i64 0, .int .i64 0, .int .i64 0, .int .i64 0, .int .i64 0, .int .i64 0] 54 (0, 0)) (by (with_reducible repeat (first | refine blk_drewN ?_ _ | refine blk_drew ?_ | refine blk_alloc ?_ _)); exact BK220.out) hb); have n4_ := Aside0.mk (below_step (by repeat (first | (with_reducible first | exact HB.out | apply below_alloc | apply pw_below_drewN | apply below_drew1 | refine below_set ?_ GE220.out) | exact HB.out)) hb); clear HO_14; clear HO_221000; clear HO242; clear BK220; clear HB; have HO_14 := n0_; have HO_221000 := n1_; have HO242 := n2_; have BK220 := n3_; have HB := n4_; clear n0_ n1_ n2_ n3_ n4_; (try clear hb); (try clear hb2); (try clear hk); (try clear hi); have hcz74_0 : w73.cell? ⟨gb220, 0, none⟩ = some (.slice Ao68 x221000_23.length co68) := (blk_cell BK220.out 0).trans rfl; have hcz74_1 : w73.cell? ⟨gb220, 1, none⟩ = some (.int .i64 (t219.size : Int)) := (blk_cell BK220.out 1).trans rfl; have hcz74_2 : w73.cell? ⟨gb220, 2, none⟩ = some (.int .i64 (wrap64 ((x8_5.size : Int) - (t219.size : Int)))) := (blk_cell BK220.out 2).trans rfl; have hcz74_3 : w73.cell? ⟨gb220, 3, none⟩ = some (.int .i64 0) := (blk_cell BK220.out 3).trans rfl; have hcz74_4 : w73.cell? ⟨gb220, 4, none⟩ = some (.int .i64 0) := (blk_cell BK220.out 4).trans rfl; have hcz74_5 : w73.cell? ⟨gb220, 5, none⟩ = some (.int .i64 0) := (blk_cell BK220.out 5).trans rfl; have hcz74_6 : w73.cell? ⟨gb220, 6, none⟩ = some (.int .i64 0) := (blk_cell BK220.out 6).trans rfl; have hcz74_7 : w73.cell? ⟨gb220, 7, none⟩ = some (.int .i64 0) := (blk_cell BK220.out 7).trans rfl; have hcz74_8 : w73.cell? ⟨gb220, 8, none⟩ = some (.int .i64 0) := (blk_cell BK220.out 8).trans rfl; have hfz74_0 := blk_frozen BK220.out 0; have hfz74_1 := blk_frozen BK220.out 1; have hfz74_2 := blk_frozen BK220.out 2; have hfz74_3 := blk_frozen BK220.out 3; have hfz74_4 := blk_frozen BK220.out 4; have hfz74_5 := blk_frozen BK220.out 5; have hfz74_6 := blk_frozen BK220.out 6; have hfz74_7 := blk_frozen BK220.out 7; have hfz74_8 := blk_frozen BK220.out 8) | ((with_reducible refine gate_builtin (b := .append) (xs := #[.tmp 139, .tmp 142]) rfl ?_); (try (refine gate_guard (by rfl) ?_; dsimp only)); at_builtin; refine Kd.R_append (Kd.int .i64) (w0 := w) w.heap.size rfl (.tmp 139) (.tmp 142) 25 3 (.int .i64 0) 8 rfl Try.underlying25 info3 rfl (by decide) (by omega) (.slice Ao68 x221000_23.length co68) x221000_23 (wrap64 ((x8_5.size : Int) - (t219.size : Int))) [.int .i64 (wrap64 ((x8_5.size : Int) - (t219.size : Int)))] (fun _ => True) (fun _ => False) rfl rfl ?aP (fun _ hk => hk.elim) ?aF ?aO ?aB ?aS ?aL ?_; (case aP => exact rfl); (case aB => exact (by repeat (first | (with_reducible first | exact HB.out | apply below_alloc | apply pw_below_drewN | apply below_drew1 | refine below_set ?_ GE220.out) | exact HB.out))); (case aF => exact (fun _ _ => trivial)); (case aO => exact (by (with_reducible repeat (first | apply Kd.R_alloc | apply Kd.R_drewN | apply Kd.R_drew)); exact HO_221000.out)); (case aS => exact (below_size (by repeat (first | (with_reducible first | exact HB.out | apply below_alloc | apply pw_below_drewN | apply below_drew1 | refine below_set ?_ GE220.out) | exact HB.out)))); (case aL => have := LMc49.out; omega); intro v248 w75 ho hb hg hat; rw [← Ny247.out] at ho; have n0_ := Aside0.mk (Kd.R_over' (by (with_reducible repeat (first | apply Kd.R_alloc | apply Kd.R_drewN | apply Kd.R_drew)); exact HO_14.out) (Kd.R_typed (by (with_reducible repeat (first | apply Kd.R_alloc | apply Kd.R_drewN | apply Kd.R_drew)); exact HO_221000.out)) (by decide) hg); have n1_ := Aside0.mk (blk_grown (g := gb220) (o := .cells #[.slice Ao68 x221000_23.length co68, .int .i64 (t219.size : Int), .int .i64 (wrap64 ((x8_5.size : Int) - (t219.size : Int))), .int .i64 0, .int .i64 0, .int .i64 0, .int .i64 0, .int .i64 0, .int .i64 0] 54 (0, 0)) (by (with_reducible repeat (first | refine blk_drewN ?_ _ | refine blk_drew ?_ | refine blk_alloc ?_ _)); exact BK220.out) hg (Kd.R_ne HO_221000.out BK220.out (by decide))); have n2_ := Aside0.mk (Kd.R_over' (by (with_reducible repeat (first | apply Kd.R_alloc | apply Kd.R_drewN | apply Kd.R_drew)); exact HO242.out) (Kd.R_typed (by (with_reducible repeat (first | apply Kd.R_alloc | apply Kd.R_drewN | apply Kd.R_drew)); exact HO_221000.out)) (by decide) hg); have n3_ := Aside0.mk (hb); have n4_ := Aside0.mk (ho); clear HO_14; clear BK220; clear HO242; clear HB; clear HO_221000; have HO_14 := n0_; have BK220 := n1_; have HO242 := n2_; have HB := n3_; have HO249 := n4_; clear n0_ n1_ n2_ n3_ n4_; clear ho hb hg hat; obtain ⟨Ao76, co76, eo76⟩ := Kd.R_slice HO249.out; subst eo76; have hcz77_0 : w75.cell? ⟨gb220, 0, none⟩ = some (.slice Ao68 x221000_23.length co68) := (blk_cell BK220.out 0).trans rfl; have hcz77_1 : w75.cell? ⟨gb220, 1, none⟩ = some (.int .i64 (t219.size : Int)) := (blk_cell BK220.out 1).trans rfl; have hcz77_2 : w75.cell? ⟨gb220, 2, none⟩ = some (.int .i64 (wrap64 ((x8_5.size : Int) - (t219.size : Int)))) := (blk_cell BK220.out 2).trans rfl; have hcz77_3 : w75.cell? ⟨gb220, 3, none⟩ = some (.int .i64 0) := (blk_cell BK220.out 3).trans rfl; have hcz77_4 : w75.cell? ⟨gb220, 4, none⟩ = some (.int .i64 0) := (blk_cell BK220.out 4).trans rfl; have hcz77_5 : w75.cell? ⟨gb220, 5, none⟩ = some (.int .i64 0) := (blk_cell BK220.out 5).trans rfl; have hcz77_6 : w75.cell? ⟨gb220, 6, none⟩ = some (.int .i64 0) := (blk_cell BK220.out 6).trans rfl; have hcz77_7 : w75.cell? ⟨gb220, 7, none⟩ = some (.int .i64 0) := (blk_cell BK220.out 7).trans rfl; have hcz77_8 : w75.cell? ⟨gb220, 8, none⟩ = some (.int .i64 0) := (blk_cell BK220.out 8).trans rfl; have hfz77_0 := blk_frozen BK220.out 0; have hfz77_1 := blk_frozen BK220.out 1; have hfz77_2 := blk_frozen BK220.out 2; have hfz77_3 := blk_frozen BK220.out 3; have hfz77_4 := blk_frozen BK220.out 4; have hfz77_5 := blk_frozen BK220.out 5; have hfz77_6 := blk_frozen BK220.out 6; have hfz77_7 := blk_frozen BK220.out 7; have hfz77_8 := blk_frozen BK220.out 8) | ((with_reducible refine gate_callee (f := 53) rfl ?_); refine goesL_ (some 149) rfl rfl Try.func53 (by kernel_rfl) rfl #[.string (x8_5 ++ (⟨#[109, 111, 114, 101, 0]⟩ : ByteArray)), .agg #[.slice Ao76 y247.length co76, .int .i64 (t219.size : Int), .int .i64 (wrap64 ((x8_5.size : Int) - (t219.size : Int))), .int .i64 0, .int .i64 0, .int .i64 0, .int .i64 0, .int .i64 0, .int .i64 0]] rfl (by (try simp only [List.map_toArray, List.map_cons, List.map_nil]); first | done | rfl | (simp only [List.length_drop, List.length_take]; rfl)) ?_; (with_reducible refine (dynamic_Names.calls kj23 (x8_5 ++ (⟨#[109, 111, 114, 101, 0]⟩ : ByteArray)) _ _ y247 (t219.size : Int) (wrap64 ((x8_5.size : Int) - (t219.size : Int))) 0 0 0 0 0 0 t250 t253 _ ?side1 ?side2 A50.out).mono ?_); (case side1 => refine (Kd.R_reads' (e := 3) (base := w.heap.size) (ok := fun k_ => True) (n := y247.length) (c := co76) ?_).2.2; exact (by (with_reducible repeat (first | apply Kd.R_alloc | apply Kd.R_drewN | apply Kd.R_drew)); exact (Kd.R_mono (Kd.R_far (p := ⟨gb220, 0, none⟩) (Kd.R_types HO249.out BK220.out (by decide)) (fun _ hk => hk.2) (.slice Ao76 y247.length co76)) (fun _ h_ => h_.1)))); (case side2 => exact (Kd.R_reads' HO249.out).2.1); rintro e w78 ⟨v251, rfl, ho0, hb⟩; refine ⟨_, rfl, ?_⟩; have n0_ := Aside0.mk (Kd.R_elder' (by (with_reducible repeat (first | apply Kd.R_alloc | apply Kd.R_drewN | apply Kd.R_drew)); exact (Kd.R_mono (Kd.R_far (p := ⟨gb220, 0, none⟩) (Kd.R_types HO_14.out BK220.out (by decide)) (fun _ hk => hk.2) (.slice Ao76 y247.length co76)) (fun _ h_ => h_.1))) (Kd.R_base ho0) hb); have n1_ := Aside0.mk (Kd.R_elder' (by (with_reducible repeat (first | apply Kd.R_alloc | apply Kd.R_drewN | apply Kd.R_drew)); exact (Kd.R_mono (Kd.R_far (p := ⟨gb220, 0, none⟩) (Kd.R_types HO242.out BK220.out (by decide)) (fun _ hk => hk.2) (.slice Ao76 y247.length co76)) (fun _ h_ => h_.1))) (Kd.R_base ho0) hb); have n2_ := Aside0.mk (Kd.R_below (by (with_reducible repeat (first | apply Kd.R_alloc | apply Kd.R_drewN | apply Kd.R_drew)); exact (Kd.R_mono (Kd.R_far (p := ⟨gb220, 0, none⟩) (Kd.R_types HO249.out BK220.out (by decide)) (fun _ hk => hk.2) (.slice Ao76 y247.length co76)) (fun _ h_ => h_.1))) hb); have n3_ := Aside0.mk (Kd.R_lower (Kd.R_new' (Kd.R_new' ho0 (Kd.R_lt (by (with_reducible repeat (first | apply Kd.R_alloc | apply Kd.R_drewN | apply Kd.R_drew)); exact (Kd.R_mono (Kd.R_far (p := ⟨gb220, 0, none⟩) (Kd.R_types HO_14.out BK220.out (by decide)) (fun _ hk => hk.2) (.slice Ao76 y247.length co76)) (fun _ h_ => h_.1))))) (Kd.R_lt (by (with_reducible repeat (first | apply Kd.R_alloc | apply Kd.R_drewN | apply Kd.R_drew)); exact (Kd.R_mono (Kd.R_far (p := ⟨gb220, 0, none⟩) (Kd.R_types HO242.out BK220.out (by decide)) (fun _ hk => hk.2) (.slice Ao76 y247.length co76)) (fun _ h_ => h_.1))))) (below_size (by repeat (first | (with_reducible first | exact HB.out | apply below_alloc | apply pw_below_drewN | apply below_drew1 | refine below_set ?_ GE220.out) | exact HB.out)))); have n4_ := Aside0.mk (blk_below (g := gb220) (o := .cells #[.slice Ao76 y247.length co76, .int .i64 (t219.size : Int), .int .i64 (wrap64 ((x8_5.size : Int) - (t219.size : Int))), .int .i64 0, .int .i64 0, .int .i64 0, .int .i64 0, .int .i64 0, .int .i64 0] 54 (0, 0)) (by (with_reducible repeat (first | refine blk_drewN ?_ _ | refine blk_drew ?_ | refine blk_alloc ?_ _)); refine blk_put (cs := #[.slice Ao68 x221000_23.length co68, .int .i64 (t219.size : Int), .int .i64 (wrap64 ((x8_5.size : Int) - (t219.size : Int))), .int .i64 0, .int .i64 0, .int .i64 0, .int .i64 0, .int .i64 0, .int .i64 0]) ?_ 0 _ rfl; (with_reducible repeat (first | refine blk_drewN ?_ _ | refine blk_drew ?_ | refine blk_alloc ?_ _)); exact BK220.out) hb); have n5_ := Aside0.mk (below_step (by repeat (first | (with_reducible first | exact HB.out | apply below_alloc | apply pw_below_drewN | apply below_drew1 | refine below_set ?_ GE220.out) | exact HB.out)) hb); clear HO_14; clear HO242; clear HO249; clear BK220; clear HB; have HO_14 := n0_; have HO242 := n1_; have HO249 := n2_; have HO252 := n3_; have BK220 := n4_; have HB := n5_; clear n0_ n1_ n2_ n3_ n4_ n5_; (try clear hb); (try clear hb2); (try clear hk); (try clear hi); (try clear ho0)))
                      go_ret
                      exact ⟨by first | rfl | (simp [errW_none, errW_some] <;> rfl) | (simp [*, errW_none, errW_some] <;> rfl), by repeat (first | (with_reducible first | exact HB.out | apply below_alloc | apply pw_below_drewN | apply below_drew1 | refine below_set ?_ GE220.out) | exact HB.out)⟩
                  · rw [if_neg c53] at H
                    have c53b0 : (t243 == 0) = false := beq_eq_false_iff_ne.mpr c53
                    have c53b1 : (t243 != 0) = true := bne_iff_ne.mpr c53
                    obtain rfl := Option.some.inj H
                    have hcz79_0 : wc.cell? ⟨gb220, 0, none⟩ = some (u221000) := (blk_cell BK220.out 0).trans rfl
                    have hcz79_1 : wc.cell? ⟨gb220, 1, none⟩ = some (.int .i64 (t219.size : Int)) := (blk_cell BK220.out 1).trans rfl
                    have hcz79_2 : wc.cell? ⟨gb220, 2, none⟩ = some (.int .i64 (wrap64 ((x8_5.size : Int) - (t219.size : Int)))) := (blk_cell BK220.out 2).trans rfl
                    have hcz79_3 : wc.cell? ⟨gb220, 3, none⟩ = some (.int .i64 0) := (blk_cell BK220.out 3).trans rfl
                    have hcz79_4 : wc.cell? ⟨gb220, 4, none⟩ = some (.int .i64 0) := (blk_cell BK220.out 4).trans rfl
                    have hcz79_5 : wc.cell? ⟨gb220, 5, none⟩ = some (.int .i64 0) := (blk_cell BK220.out 5).trans rfl
                    have hcz79_6 : wc.cell? ⟨gb220, 6, none⟩ = some (.int .i64 0) := (blk_cell BK220.out 6).trans rfl
                    have hcz79_7 : wc.cell? ⟨gb220, 7, none⟩ = some (.int .i64 0) := (blk_cell BK220.out 7).trans rfl
                    have hcz79_8 : wc.cell? ⟨gb220, 8, none⟩ = some (.int .i64 0) := (blk_cell BK220.out 8).trans rfl
                    have hfz79_0 := blk_frozen BK220.out 0
                    have hfz79_1 := blk_frozen BK220.out 1
                    have hfz79_2 := blk_frozen BK220.out 2
                    have hfz79_3 := blk_frozen BK220.out 3
                    have hfz79_4 := blk_frozen BK220.out 4
                    have hfz79_5 := blk_frozen BK220.out 5
                    have hfz79_6 := blk_frozen BK220.out 6
                    have hfz79_7 := blk_frozen BK220.out 7
                    have hfz79_8 := blk_frozen BK220.out 8
                    obtain ⟨Ao80, co80, eo80⟩ := Kd.R_slice HO_221000.out
                    subst eo80
                    go_wp2_with (first | ((with_reducible refine gate_callee (f := 53) rfl ?_); refine goesL_ (some 123) rfl rfl Try.func53 (by kernel_rfl) rfl #[.string (x8_5 ++ (⟨#[109, 111, 114, 101, 0]⟩ : ByteArray)), .agg #[.slice Ao80 x221000_23.length co80, .int .i64 (t219.size : Int), .int .i64 (wrap64 ((x8_5.size : Int) - (t219.size : Int))), .int .i64 0, .int .i64 0, .int .i64 0, .int .i64 0, .int .i64 0, .int .i64 0]] rfl (by (try simp only [List.map_toArray, List.map_cons, List.map_nil]); first | done | rfl | (simp only [List.length_drop, List.length_take]; rfl)) ?_; (with_reducible refine (dynamic_Names.calls kj23 (x8_5 ++ (⟨#[109, 111, 114, 101, 0]⟩ : ByteArray)) _ _ x221000_23 (t219.size : Int) (wrap64 ((x8_5.size : Int) - (t219.size : Int))) 0 0 0 0 0 0 t240 t243 _ ?side1 ?side2 A46.out).mono ?_); (case side1 => repeat (first | exact (Kd.R_reads' HO_221000.out).2.2 | (with_reducible refine Kd.C_alloc ?_ _) | (with_reducible refine Kd.C_drewN ?_ _) | (with_reducible refine Kd.C_drew ?_))); (case side2 => exact (Kd.R_reads' HO_221000.out).2.1); rintro e w81 ⟨v241, rfl, ho0, hb⟩; refine ⟨_, rfl, ?_⟩; have n0_ := Aside0.mk (Kd.R_elder' (by (with_reducible repeat (first | apply Kd.R_alloc | apply Kd.R_drewN | apply Kd.R_drew)); exact HO_14.out) (Kd.R_base ho0) hb); have n1_ := Aside0.mk (Kd.R_below (by (with_reducible repeat (first | apply Kd.R_alloc | apply Kd.R_drewN | apply Kd.R_drew)); exact HO_221000.out) hb); have n2_ := Aside0.mk (Kd.R_lower (Kd.R_new' ho0 (Kd.R_lt (by (with_reducible repeat (first | apply Kd.R_alloc | apply Kd.R_drewN | apply Kd.R_drew)); exact HO_14.out))) (below_size (by repeat (first | (with_reducible first | exact HB.out | apply below_alloc | apply pw_below_drewN | apply below_drew1 | refine below_set ?_ GE220.out) | exact HB.out)))); have n3_ := Aside0.mk (blk_below (g := gb220) (o := .cells #[.slice Ao80 x221000_23.length co80, .int .i64 (t219.size : Int), .int .i64 (wrap64 ((x8_5.size : Int) - (t219.size : Int))), .int .i64 0, .int .i64 0, .int .i64 0, .int .i64 0, .int .i64 0, .int .i64 0] 54 (0, 0)) (by (with_reducible repeat (first | refine blk_drewN ?_ _ | refine blk_drew ?_ | refine blk_alloc ?_ _)); exact BK220.out) hb); have n4_ := Aside0.mk (below_step (by repeat (first | (with_reducible first | exact HB.out | apply below_alloc | apply pw_below_drewN | apply below_drew1 | refine below_set ?_ GE220.out) | exact HB.out)) hb); clear HO_14; clear HO_221000; clear BK220; clear HB; have HO_14 := n0_; have HO_221000 := n1_; have HO242 := n2_; have BK220 := n3_; have HB := n4_; clear n0_ n1_ n2_ n3_ n4_; (try clear hb); (try clear hb2); (try clear hk); (try clear hi); (try clear ho0); obtain ⟨Ao82, co82, eo82⟩ := Kd.R_slice HO242.out; subst eo82; obtain ⟨Ao83, co83, eo83⟩ := Kd.R_slice HO_14.out; subst eo83) | ((with_reducible refine gate_callee (f := 54) rfl ?_); refine goesL_ (some 128) rfl rfl Try.func54 (by kernel_rfl) rfl #[.slice Ao82 t240.length co82, .slice Ao83 x14_23.length co83] rfl (by (try simp only [List.map_toArray, List.map_cons, List.map_nil]); first | done | rfl | (simp only [List.length_drop, List.length_take]; rfl)) ?_; (with_reducible refine (flyleafref09_SameTexts.calls kj23 _ _ t240 _ _ x14_23 true _ ?side1 ?side2 ?side3 ?side4 A47.out).mono ?_); (case side1 => repeat (first | exact (Kd.R_reads' HO242.out).2.2 | (with_reducible refine Kd.C_alloc ?_ _) | (with_reducible refine Kd.C_drewN ?_ _) | (with_reducible refine Kd.C_drew ?_))); (case side2 => exact (Kd.R_reads' HO242.out).2.1); (case side3 => repeat (first | exact (Kd.R_reads' HO_14.out).2.2 | (with_reducible refine Kd.C_alloc ?_ _) | (with_reducible refine Kd.C_drewN ?_ _) | (with_reducible refine Kd.C_drew ?_))); (case side4 => exact (Kd.R_reads' HO_14.out).2.1); rintro e w' ⟨rfl, ⟨nd, rfl⟩⟩; refine ⟨_, rfl, ?_⟩; (try (rw [drewN_self w81]; generalize hq_ : World.drewN w81 _ = w81; have n0_ : Aside0 (Kd.R Kd.string 9 w81 w.heap.size (fun k_ => some k_ ≠ (.slice Ao83 x14_23.length co83 : Value).ownBlock) (.slice Ao82 t240.length co82) t240) := ⟨by rw [← hq_]; exact (by (with_reducible repeat (first | apply Kd.R_alloc | apply Kd.R_drewN | apply Kd.R_drew)); exact Kd.R_mono HO242.out (fun _ hk => hk.2))⟩; have n1_ : Aside0 (Kd.R Kd.string 9 w81 w.heap.size (fun k_ => some k_ ≠ (.slice Ao82 t240.length co82 : Value).ownBlock) (.slice Ao83 x14_23.length co83) x14_23) := ⟨by rw [← hq_]; exact (by (with_reducible repeat (first | apply Kd.R_alloc | apply Kd.R_drewN | apply Kd.R_drew)); exact Kd.R_mono HO_14.out (fun _ hk => hk.2))⟩; have n2_ : Aside0 (Kd.R (Kd.int .i64) 3 w81 w.heap.size (fun _ => True) (.slice Ao80 x221000_23.length co80) x221000_23) := ⟨by rw [← hq_]; exact (by (with_reducible repeat (first | apply Kd.R_alloc | apply Kd.R_drewN | apply Kd.R_drew)); exact HO_221000.out)⟩; have n3_ : Aside0 (w81.heap[gb220]? = some (.cells #[.slice Ao80 x221000_23.length co80, .int .i64 (t219.size : Int), .int .i64 (wrap64 ((x8_5.size : Int) - (t219.size : Int))), .int .i64 0, .int .i64 0, .int .i64 0, .int .i64 0, .int .i64 0, .int .i64 0] 54 (0, 0))) := ⟨by rw [← hq_]; exact (by (with_reducible repeat (first | refine blk_drewN ?_ _ | refine blk_drew ?_ | refine blk_alloc ?_ _)); exact BK220.out)⟩; have n4_ : Aside0 (Below w.heap.size w w81) := ⟨by rw [← hq_]; exact (by repeat (first | (with_reducible first | exact HB.out | apply below_alloc | apply pw_below_drewN | apply below_drew1 | refine below_set ?_ GE220.out) | exact HB.out))⟩; clear HO242 HO_14 HO_221000 BK220 HB hq_; have HO242 := n0_; have HO_14 := n1_; have HO_221000 := n2_; have BK220 := n3_; have HB := n4_; clear n0_ n1_ n2_ n3_ n4_)); have hcz84_0 : w81.cell? ⟨gb220, 0, none⟩ = some (.slice Ao80 x221000_23.length co80) := (blk_cell BK220.out 0).trans rfl; have hcz84_1 : w81.cell? ⟨gb220, 1, none⟩ = some (.int .i64 (t219.size : Int)) := (blk_cell BK220.out 1).trans rfl; have hcz84_2 : w81.cell? ⟨gb220, 2, none⟩ = some (.int .i64 (wrap64 ((x8_5.size : Int) - (t219.size : Int)))) := (blk_cell BK220.out 2).trans rfl; have hcz84_3 : w81.cell? ⟨gb220, 3, none⟩ = some (.int .i64 0) := (blk_cell BK220.out 3).trans rfl; have hcz84_4 : w81.cell? ⟨gb220, 4, none⟩ = some (.int .i64 0) := (blk_cell BK220.out 4).trans rfl; have hcz84_5 : w81.cell? ⟨gb220, 5, none⟩ = some (.int .i64 0) := (blk_cell BK220.out 5).trans rfl; have hcz84_6 : w81.cell? ⟨gb220, 6, none⟩ = some (.int .i64 0) := (blk_cell BK220.out 6).trans rfl; have hcz84_7 : w81.cell? ⟨gb220, 7, none⟩ = some (.int .i64 0) := (blk_cell BK220.out 7).trans rfl; have hcz84_8 : w81.cell? ⟨gb220, 8, none⟩ = some (.int .i64 0) := (blk_cell BK220.out 8).trans rfl; have hfz84_0 := blk_frozen BK220.out 0; have hfz84_1 := blk_frozen BK220.out 1; have hfz84_2 := blk_frozen BK220.out 2; have hfz84_3 := blk_frozen BK220.out 3; have hfz84_4 := blk_frozen BK220.out 4; have hfz84_5 := blk_frozen BK220.out 5; have hfz84_6 := blk_frozen BK220.out 6; have hfz84_7 := blk_frozen BK220.out 7; have hfz84_8 := blk_frozen BK220.out 8) | ((with_reducible refine gate_callee (f := 55) rfl ?_); refine goesL_ (some 135) rfl rfl Try.func55 (by kernel_rfl) rfl #[.string (x8_5 ++ (⟨#[109, 111, 114, 101, 0]⟩ : ByteArray)), .agg #[.slice Ao80 x221000_23.length co80, .int .i64 (t219.size : Int), .int .i64 (wrap64 ((x8_5.size : Int) - (t219.size : Int))), .int .i64 0, .int .i64 0, .int .i64 0, .int .i64 0, .int .i64 0, .int .i64 0], .int .i64 (wrap64 ((x8_5.size : Int) - (t219.size : Int)))] rfl (by (try simp only [List.map_toArray, List.map_cons, List.map_nil]); first | done | rfl | (simp only [List.length_drop, List.length_take]; rfl)) ?_; (with_reducible refine (dynamic_Name.calls kj23 (x8_5 ++ (⟨#[109, 111, 114, 101, 0]⟩ : ByteArray)) _ _ x221000_23 (t219.size : Int) (wrap64 ((x8_5.size : Int) - (t219.size : Int))) 0 0 0 0 0 0 (wrap64 ((x8_5.size : Int) - (t219.size : Int))) t245 t246 _ ?side1 ?side2 A48.out).mono ?_); (case side1 => repeat (first | exact (Kd.R_reads' HO_221000.out).2.2 | (with_reducible refine Kd.C_alloc ?_ _) | (with_reducible refine Kd.C_drewN ?_ _) | (with_reducible refine Kd.C_drew ?_))); (case side2 => exact (Kd.R_reads' HO_221000.out).2.1); rintro e w85 ⟨rfl, hb⟩; refine ⟨_, rfl, ?_⟩; have n0_ := Aside0.mk (Kd.R_below (by (with_reducible repeat (first | apply Kd.R_alloc | apply Kd.R_drewN | apply Kd.R_drew)); exact HO_14.out) hb); have n1_ := Aside0.mk (Kd.R_below (by (with_reducible repeat (first | apply Kd.R_alloc | apply Kd.R_drewN | apply Kd.R_drew)); exact HO_221000.out) hb); have n2_ := Aside0.mk (Kd.R_below (by (with_reducible repeat (first | apply Kd.R_alloc | apply Kd.R_drewN | apply Kd.R_drew)); exact HO242.out) hb); have n3_ := Aside0.mk (blk_below (g := gb220) (o := .cells #[.slice Ao80 x221000_23.length co80, .int .i64 (t219.size : Int), .int .i64 (wrap64 ((x8_5.size : Int) - (t219.size : Int))), .int .i64 0, .int .i64 0, .int .i64 0, .int .i64 0, .int .i64 0, .int .i64 0] 54 (0, 0)) (by (with_reducible repeat (first | refine blk_drewN ?_ _ | refine blk_drew ?_ | refine blk_alloc ?_ _)); exact BK220.out) hb); have n4_ := Aside0.mk (below_step (by repeat (first | (with_reducible first | exact HB.out | apply below_alloc | apply pw_below_drewN | apply below_drew1 | refine below_set ?_ GE220.out) | exact HB.out)) hb); clear HO_14; clear HO_221000; clear HO242; clear BK220; clear HB; have HO_14 := n0_; have HO_221000 := n1_; have HO242 := n2_; have BK220 := n3_; have HB := n4_; clear n0_ n1_ n2_ n3_ n4_; (try clear hb); (try clear hb2); (try clear hk); (try clear hi); have hcz86_0 : w85.cell? ⟨gb220, 0, none⟩ = some (.slice Ao80 x221000_23.length co80) := (blk_cell BK220.out 0).trans rfl; have hcz86_1 : w85.cell? ⟨gb220, 1, none⟩ = some (.int .i64 (t219.size : Int)) := (blk_cell BK220.out 1).trans rfl; have hcz86_2 : w85.cell? ⟨gb220, 2, none⟩ = some (.int .i64 (wrap64 ((x8_5.size : Int) - (t219.size : Int)))) := (blk_cell BK220.out 2).trans rfl; have hcz86_3 : w85.cell? ⟨gb220, 3, none⟩ = some (.int .i64 0) := (blk_cell BK220.out 3).trans rfl; have hcz86_4 : w85.cell? ⟨gb220, 4, none⟩ = some (.int .i64 0) := (blk_cell BK220.out 4).trans rfl; have hcz86_5 : w85.cell? ⟨gb220, 5, none⟩ = some (.int .i64 0) := (blk_cell BK220.out 5).trans rfl; have hcz86_6 : w85.cell? ⟨gb220, 6, none⟩ = some (.int .i64 0) := (blk_cell BK220.out 6).trans rfl; have hcz86_7 : w85.cell? ⟨gb220, 7, none⟩ = some (.int .i64 0) := (blk_cell BK220.out 7).trans rfl; have hcz86_8 : w85.cell? ⟨gb220, 8, none⟩ = some (.int .i64 0) := (blk_cell BK220.out 8).trans rfl; have hfz86_0 := blk_frozen BK220.out 0; have hfz86_1 := blk_frozen BK220.out 1; have hfz86_2 := blk_frozen BK220.out 2; have hfz86_3 := blk_frozen BK220.out 3; have hfz86_4 := blk_frozen BK220.out 4; have hfz86_5 := blk_frozen BK220.out 5; have hfz86_6 := blk_frozen BK220.out 6; have hfz86_7 := blk_frozen BK220.out 7; have hfz86_8 := blk_frozen BK220.out 8) | ((with_reducible refine gate_builtin (b := .append) (xs := #[.tmp 139, .tmp 142]) rfl ?_); (try (refine gate_guard (by rfl) ?_; dsimp only)); at_builtin; refine Kd.R_append (Kd.int .i64) (w0 := w) w.heap.size rfl (.tmp 139) (.tmp 142) 25 3 (.int .i64 0) 8 rfl Try.underlying25 info3 rfl (by decide) (by omega) (.slice Ao80 x221000_23.length co80) x221000_23 (wrap64 ((x8_5.size : Int) - (t219.size : Int))) [.int .i64 (wrap64 ((x8_5.size : Int) - (t219.size : Int)))] (fun _ => True) (fun _ => False) rfl rfl ?aP (fun _ hk => hk.elim) ?aF ?aO ?aB ?aS ?aL ?_; (case aP => exact rfl); (case aB => exact (by repeat (first | (with_reducible first | exact HB.out | apply below_alloc | apply pw_below_drewN | apply below_drew1 | refine below_set ?_ GE220.out) | exact HB.out))); (case aF => exact (fun _ _ => trivial)); (case aO => exact (by (with_reducible repeat (first | apply Kd.R_alloc | apply Kd.R_drewN | apply Kd.R_drew)); exact HO_221000.out)); (case aS => exact (below_size (by repeat (first | (with_reducible first | exact HB.out | apply below_alloc | apply pw_below_drewN | apply below_drew1 | refine below_set ?_ GE220.out) | exact HB.out)))); (case aL => have := LMc49.out; omega); intro v248 w87 ho hb hg hat; rw [← Ny247.out] at ho; have n0_ := Aside0.mk (Kd.R_over' (by (with_reducible repeat (first | apply Kd.R_alloc | apply Kd.R_drewN | apply Kd.R_drew)); exact HO_14.out) (Kd.R_typed (by (with_reducible repeat (first | apply Kd.R_alloc | apply Kd.R_drewN | apply Kd.R_drew)); exact HO_221000.out)) (by decide) hg); have n1_ := Aside0.mk (blk_grown (g := gb220) (o := .cells #[.slice Ao80 x221000_23.length co80, .int .i64 (t219.size : Int), .int .i64 (wrap64 ((x8_5.size : Int) - (t219.size : Int))), .int .i64 0, .int .i64 0, .int .i64 0, .int .i64 0, .int .i64 0, .int .i64 0] 54 (0, 0)) (by (with_reducible repeat (first | refine blk_drewN ?_ _ | refine blk_drew ?_ | refine blk_alloc ?_ _)); exact BK220.out) hg (Kd.R_ne HO_221000.out BK220.out (by decide))); have n2_ := Aside0.mk (Kd.R_over' (by (with_reducible repeat (first | apply Kd.R_alloc | apply Kd.R_drewN | apply Kd.R_drew)); exact HO242.out) (Kd.R_typed (by (with_reducible repeat (first | apply Kd.R_alloc | apply Kd.R_drewN | apply Kd.R_drew)); exact HO_221000.out)) (by decide) hg); have n3_ := Aside0.mk (hb); have n4_ := Aside0.mk (ho); clear HO_14; clear BK220; clear HO242; clear HB; clear HO_221000; have HO_14 := n0_; have BK220 := n1_; have HO242 := n2_; have HB := n3_; have HO249 := n4_; clear n0_ n1_ n2_ n3_ n4_; clear ho hb hg hat; obtain ⟨Ao88, co88, eo88⟩ := Kd.R_slice HO249.out; subst eo88; have hcz89_0 : w87.cell? ⟨gb220, 0, none⟩ = some (.slice Ao80 x221000_23.length co80) := (blk_cell BK220.out 0).trans rfl; have hcz89_1 : w87.cell? ⟨gb220, 1, none⟩ = some (.int .i64 (t219.size : Int)) := (blk_cell BK220.out 1).trans rfl; have hcz89_2 : w87.cell? ⟨gb220, 2, none⟩ = some (.int .i64 (wrap64 ((x8_5.size : Int) - (t219.size : Int)))) := (blk_cell BK220.out 2).trans rfl; have hcz89_3 : w87.cell? ⟨gb220, 3, none⟩ = some (.int .i64 0) := (blk_cell BK220.out 3).trans rfl; have hcz89_4 : w87.cell? ⟨gb220, 4, none⟩ = some (.int .i64 0) := (blk_cell BK220.out 4).trans rfl; have hcz89_5 : w87.cell? ⟨gb220, 5, none⟩ = some (.int .i64 0) := (blk_cell BK220.out 5).trans rfl; have hcz89_6 : w87.cell? ⟨gb220, 6, none⟩ = some (.int .i64 0) := (blk_cell BK220.out 6).trans rfl; have hcz89_7 : w87.cell? ⟨gb220, 7, none⟩ = some (.int .i64 0) := (blk_cell BK220.out 7).trans rfl; have hcz89_8 : w87.cell? ⟨gb220, 8, none⟩ = some (.int .i64 0) := (blk_cell BK220.out 8).trans rfl; have hfz89_0 := blk_frozen BK220.out 0; have hfz89_1 := blk_frozen BK220.out 1; have hfz89_2 := blk_frozen BK220.out 2; have hfz89_3 := blk_frozen BK220.out 3; have hfz89_4 := blk_frozen BK220.out 4; have hfz89_5 := blk_frozen BK220.out 5; have hfz89_6 := blk_frozen BK220.out 6; have hfz89_7 := blk_frozen BK220.out 7; have hfz89_8 := blk_frozen BK220.out 8) | ((with_reducible refine gate_callee (f := 53) rfl ?_); refine goesL_ (some 149) rfl rfl Try.func53 (by kernel_rfl) rfl #[.string (x8_5 ++ (⟨#[109, 111, 114, 101, 0]⟩ : ByteArray)), .agg #[.slice Ao88 y247.length co88, .int .i64 (t219.size : Int), .int .i64 (wrap64 ((x8_5.size : Int) - (t219.size : Int))), .int .i64 0, .int .i64 0, .int .i64 0, .int .i64 0, .int .i64 0, .int .i64 0]] rfl (by (try simp only [List.map_toArray, List.map_cons, List.map_nil]); first | done | rfl | (simp only [List.length_drop, List.length_take]; rfl)) ?_; (with_reducible refine (dynamic_Names.calls kj23 (x8_5 ++ (⟨#[109, 111, 114, 101, 0]⟩ : ByteArray)) _ _ y247 (t219.size : Int) (wrap64 ((x8_5.size : Int) - (t219.size : Int))) 0 0 0 0 0 0 t250 t253 _ ?side1 ?side2 A50.out).mono ?_); (case side1 => refine (Kd.R_reads' (e := 3) (base := w.heap.size) (ok := fun k_ => True) (n := y247.length) (c := co88) ?_).2.2; exact (by (with_reducible repeat (first | apply Kd.R_alloc | apply Kd.R_drewN | apply Kd.R_drew)); exact (Kd.R_mono (Kd.R_far (p := ⟨gb220, 0, none⟩) (Kd.R_types HO249.out BK220.out (by decide)) (fun _ hk => hk.2) (.slice Ao88 y247.length co88)) (fun _ h_ => h_.1)))); (case side2 => exact (Kd.R_reads' HO249.out).2.1); rintro e w90 ⟨v251, rfl, ho0, hb⟩; refine ⟨_, rfl, ?_⟩; have n0_ := Aside0.mk (Kd.R_elder' (by (with_reducible repeat (first | apply Kd.R_alloc | apply Kd.R_drewN | apply Kd.R_drew)); exact (Kd.R_mono (Kd.R_far (p := ⟨gb220, 0, none⟩) (Kd.R_types HO_14.out BK220.out (by decide)) (fun _ hk => hk.2) (.slice Ao88 y247.length co88)) (fun _ h_ => h_.1))) (Kd.R_base ho0) hb); have n1_ := Aside0.mk (Kd.R_elder' (by (with_reducible repeat (first | apply Kd.R_alloc | apply Kd.R_drewN | apply Kd.R_drew)); exact (Kd.R_mono (Kd.R_far (p := ⟨gb220, 0, none⟩) (Kd.R_types HO242.out BK220.out (by decide)) (fun _ hk => hk.2) (.slice Ao88 y247.length co88)) (fun _ h_ => h_.1))) (Kd.R_base ho0) hb); have n2_ := Aside0.mk (Kd.R_below (by (with_reducible repeat (first | apply Kd.R_alloc | apply Kd.R_drewN | apply Kd.R_drew)); exact (Kd.R_mono (Kd.R_far (p := ⟨gb220, 0, none⟩) (Kd.R_types HO249.out BK220.out (by decide)) (fun _ hk => hk.2) (.slice Ao88 y247.length co88)) (fun _ h_ => h_.1))) hb); have n3_ := Aside0.mk (Kd.R_lower (Kd.R_new' (Kd.R_new' ho0 (Kd.R_lt (by (with_reducible repeat (first | apply Kd.R_alloc | apply Kd.R_drewN | apply Kd.R_drew)); exact (Kd.R_mono (Kd.R_far (p := ⟨gb220, 0, none⟩) (Kd.R_types HO_14.out BK220.out (by decide)) (fun _ hk => hk.2) (.slice Ao88 y247.length co88)) (fun _ h_ => h_.1))))) (Kd.R_lt (by (with_reducible repeat (first | apply Kd.R_alloc | apply Kd.R_drewN | apply Kd.R_drew)); exact (Kd.R_mono (Kd.R_far (p := ⟨gb220, 0, none⟩) (Kd.R_types HO242.out BK220.out (by decide)) (fun _ hk => hk.2) (.slice Ao88 y247.length co88)) (fun _ h_ => h_.1))))) (below_size (by repeat (first | (with_reducible first | exact HB.out | apply below_alloc | apply pw_below_drewN | apply below_drew1 | refine below_set ?_ GE220.out) | exact HB.out)))); have n4_ := Aside0.mk (blk_below (g := gb220) (o := .cells #[.slice Ao88 y247.length co88, .int .i64 (t219.size : Int), .int .i64 (wrap64 ((x8_5.size : Int) - (t219.size : Int))), .int .i64 0, .int .i64 0, .int .i64 0, .int .i64 0, .int .i64 0, .int .i64 0] 54 (0, 0)) (by (with_reducible repeat (first | refine blk_drewN ?_ _ | refine blk_drew ?_ | refine blk_alloc ?_ _)); refine blk_put (cs := #[.slice Ao80 x221000_23.length co80, .int .i64 (t219.size : Int), .int .i64 (wrap64 ((x8_5.size : Int) - (t219.size : Int))), .int .i64 0, .int .i64 0, .int .i64 0, .int .i64 0, .int .i64 0, .int .i64 0]) ?_ 0 _ rfl; (with_reducible repeat (first | refine blk_drewN ?_ _ | refine blk_drew ?_ | refine blk_alloc ?_ _)); exact BK220.out) hb); have n5_ := Aside0.mk (below_step (by repeat (first | (with_reducible first | exact HB.out | apply below_alloc | apply pw_below_drewN | apply below_drew1 | refine below_set ?_ GE220.out) | exact HB.out)) hb); clear HO_14; clear HO242; clear HO249; clear BK220; clear HB; have HO_14 := n0_; have HO242 := n1_; have HO249 := n2_; have HO252 := n3_; have BK220 := n4_; have HB := n5_; clear n0_ n1_ n2_ n3_ n4_ n5_; (try clear hb); (try clear hb2); (try clear hk); (try clear hi); (try clear ho0)))
                    go_ret
                    exact ⟨by first | rfl | (simp [errW_none, errW_some] <;> rfl) | (simp [*, errW_none, errW_some] <;> rfl), by repeat (first | (with_reducible first | exact HB.out | apply below_alloc | apply pw_below_drewN | apply below_drew1 | refine below_set ?_ GE220.out) | exact HB.out)⟩
                · replace c52 := Bool.eq_false_iff.mpr c52
                  subst c52
                  have H1 : (some false) = some r := by rw [if_neg (show ¬ (false = true) by decide)] at H; exact H
                  clear H
                  have H := H1
                  clear H1
                  obtain rfl := Option.some.inj H
                  have hcz91_0 : wc.cell? ⟨gb220, 0, none⟩ = some (u221000) := (blk_cell BK220.out 0).trans rfl
                  have hcz91_1 : wc.cell? ⟨gb220, 1, none⟩ = some (.int .i64 (t219.size : Int)) := (blk_cell BK220.out 1).trans rfl
                  have hcz91_2 : wc.cell? ⟨gb220, 2, none⟩ = some (.int .i64 (wrap64 ((x8_5.size : Int) - (t219.size : Int)))) := (blk_cell BK220.out 2).trans rfl
                  have hcz91_3 : wc.cell? ⟨gb220, 3, none⟩ = some (.int .i64 0) := (blk_cell BK220.out 3).trans rfl
                  have hcz91_4 : wc.cell? ⟨gb220, 4, none⟩ = some (.int .i64 0) := (blk_cell BK220.out 4).trans rfl
                  have hcz91_5 : wc.cell? ⟨gb220, 5, none⟩ = some (.int .i64 0) := (blk_cell BK220.out 5).trans rfl
                  have hcz91_6 : wc.cell? ⟨gb220, 6, none⟩ = some (.int .i64 0) := (blk_cell BK220.out 6).trans rfl
                  have hcz91_7 : wc.cell? ⟨gb220, 7, none⟩ = some (.int .i64 0) := (blk_cell BK220.out 7).trans rfl
                  have hcz91_8 : wc.cell? ⟨gb220, 8, none⟩ = some (.int .i64 0) := (blk_cell BK220.out 8).trans rfl
                  have hfz91_0 := blk_frozen BK220.out 0
                  have hfz91_1 := blk_frozen BK220.out 1
                  have hfz91_2 := blk_frozen BK220.out 2
                  have hfz91_3 := blk_frozen BK220.out 3
                  have hfz91_4 := blk_frozen BK220.out 4
                  have hfz91_5 := blk_frozen BK220.out 5
                  have hfz91_6 := blk_frozen BK220.out 6
                  have hfz91_7 := blk_frozen BK220.out 7
                  have hfz91_8 := blk_frozen BK220.out 8
                  obtain ⟨Ao92, co92, eo92⟩ := Kd.R_slice HO_221000.out
                  subst eo92
                  go_wp2_with (first | ((with_reducible refine gate_callee (f := 53) rfl ?_); refine goesL_ (some 123) rfl rfl Try.func53 (by kernel_rfl) rfl #[.string (x8_5 ++ (⟨#[109, 111, 114, 101, 0]⟩ : ByteArray)), .agg #[.slice Ao92 x221000_23.length co92, .int .i64 (t219.size : Int), .int .i64 (wrap64 ((x8_5.size : Int) - (t219.size : Int))), .int .i64 0, .int .i64 0, .int .i64 0, .int .i64 0, .int .i64 0, .int .i64 0]] rfl (by (try simp only [List.map_toArray, List.map_cons, List.map_nil]); first | done | rfl | (simp only [List.length_drop, List.length_take]; rfl)) ?_; (with_reducible refine (dynamic_Names.calls kj23 (x8_5 ++ (⟨#[109, 111, 114, 101, 0]⟩ : ByteArray)) _ _ x221000_23 (t219.size : Int) (wrap64 ((x8_5.size : Int) - (t219.size : Int))) 0 0 0 0 0 0 t240 t243 _ ?side1 ?side2 A46.out).mono ?_); (case side1 => repeat (first | exact (Kd.R_reads' HO_221000.out).2.2 | (with_reducible refine Kd.C_alloc ?_ _) | (with_reducible refine Kd.C_drewN ?_ _) | (with_reducible refine Kd.C_drew ?_))); (case side2 => exact (Kd.R_reads' HO_221000.out).2.1); rintro e w93 ⟨v241, rfl, ho0, hb⟩; refine ⟨_, rfl, ?_⟩; have n0_ := Aside0.mk (Kd.R_elder' (by (with_reducible repeat (first | apply Kd.R_alloc | apply Kd.R_drewN | apply Kd.R_drew)); exact HO_14.out) (Kd.R_base ho0) hb); have n1_ := Aside0.mk (Kd.R_below (by (with_reducible repeat (first | apply Kd.R_alloc | apply Kd.R_drewN | apply Kd.R_drew)); exact HO_221000.out) hb); have n2_ := Aside0.mk (Kd.R_lower (Kd.R_new' ho0 (Kd.R_lt (by (with_reducible repeat (first | apply Kd.R_alloc | apply Kd.R_drewN | apply Kd.R_drew)); exact HO_14.out))) (below_size (by repeat (first | (with_reducible first | exact HB.out | apply below_alloc | apply pw_below_drewN | apply below_drew1 | refine below_set ?_ GE220.out) | exact HB.out)))); have n3_ := Aside0.mk (blk_below (g := gb220) (o := .cells #[.slice Ao92 x221000_23.length co92, .int .i64 (t219.size : Int), .int .i64 (wrap64 ((x8_5.size : Int) - (t219.size : Int))), .int .i64 0, .int .i64 0, .int .i64 0, .int .i64 0, .int .i64 0, .int .i64 0] 54 (0, 0)) (by (with_reducible repeat (first | refine blk_drewN ?_ _ | refine blk_drew ?_ | refine blk_alloc ?_ _)); exact BK220.out) hb); have n4_ := Aside0.mk (below_step (by repeat (first | (with_reducible first | exact HB.out | apply below_alloc | apply pw_below_drewN | apply below_drew1 | refine below_set ?_ GE220.out) | exact HB.out)) hb); clear HO_14; clear HO_221000; clear BK220; clear HB; have HO_14 := n0_; have HO_221000 := n1_; have HO242 := n2_; have BK220 := n3_; have HB := n4_; clear n0_ n1_ n2_ n3_ n4_; (try clear hb); (try clear hb2); (try clear hk); (try clear hi); (try clear ho0); obtain ⟨Ao94, co94, eo94⟩ := Kd.R_slice HO242.out; subst eo94; obtain ⟨Ao95, co95, eo95⟩ := Kd.R_slice HO_14.out; subst eo95) | ((with_reducible refine gate_callee (f := 54) rfl ?_); refine goesL_ (some 128) rfl rfl Try.func54 (by kernel_rfl) rfl #[.slice Ao94 t240.length co94, .slice Ao95 x14_23.length co95] rfl (by (try simp only [List.map_toArray, List.map_cons, List.map_nil]); first | done | rfl | (simp only [List.length_drop, List.length_take]; rfl)) ?_; (with_reducible refine (flyleafref09_SameTexts.calls kj23 _ _ t240 _ _ x14_23 false _ ?side1 ?side2 ?side3 ?side4 A47.out).mono ?_); (case side1 => repeat (first | exact (Kd.R_reads' HO242.out).2.2 | (with_reducible refine Kd.C_alloc ?_ _) | (with_reducible refine Kd.C_drewN ?_ _) | (with_reducible refine Kd.C_drew ?_))); (case side2 => exact (Kd.R_reads' HO242.out).2.1); (case side3 => repeat (first | exact (Kd.R_reads' HO_14.out).2.2 | (with_reducible refine Kd.C_alloc ?_ _) | (with_reducible refine Kd.C_drewN ?_ _) | (with_reducible refine Kd.C_drew ?_))); (case side4 => exact (Kd.R_reads' HO_14.out).2.1); rintro e w' ⟨rfl, ⟨nd, rfl⟩⟩; refine ⟨_, rfl, ?_⟩; (try (rw [drewN_self w93]; generalize hq_ : World.drewN w93 _ = w93; have n0_ : Aside0 (Kd.R Kd.string 9 w93 w.heap.size (fun k_ => some k_ ≠ (.slice Ao95 x14_23.length co95 : Value).ownBlock) (.slice Ao94 t240.length co94) t240) := ⟨by rw [← hq_]; exact (by (with_reducible repeat (first | apply Kd.R_alloc | apply Kd.R_drewN | apply Kd.R_drew)); exact Kd.R_mono HO242.out (fun _ hk => hk.2))⟩; have n1_ : Aside0 (Kd.R Kd.string 9 w93 w.heap.size (fun k_ => some k_ ≠ (.slice Ao94 t240.length co94 : Value).ownBlock) (.slice Ao95 x14_23.length co95) x14_23) := ⟨by rw [← hq_]; exact (by (with_reducible repeat (first | apply Kd.R_alloc | apply Kd.R_drewN | apply Kd.R_drew)); exact Kd.R_mono HO_14.out (fun _ hk => hk.2))⟩; have n2_ : Aside0 (Kd.R (Kd.int .i64) 3 w93 w.heap.size (fun _ => True) (.slice Ao92 x221000_23.length co92) x221000_23) := ⟨by rw [← hq_]; exact (by (with_reducible repeat (first | apply Kd.R_alloc | apply Kd.R_drewN | apply Kd.R_drew)); exact HO_221000.out)⟩; have n3_ : Aside0 (w93.heap[gb220]? = some (.cells #[.slice Ao92 x221000_23.length co92, .int .i64 (t219.size : Int), .int .i64 (wrap64 ((x8_5.size : Int) - (t219.size : Int))), .int .i64 0, .int .i64 0, .int .i64 0, .int .i64 0, .int .i64 0, .int .i64 0] 54 (0, 0))) := ⟨by rw [← hq_]; exact (by (with_reducible repeat (first | refine blk_drewN ?_ _ | refine blk_drew ?_ | refine blk_alloc ?_ _)); exact BK220.out)⟩; have n4_ : Aside0 (Below w.heap.size w w93) := ⟨by rw [← hq_]; exact (by repeat (first | (with_reducible first | exact HB.out | apply below_alloc | apply pw_below_drewN | apply below_drew1 | refine below_set ?_ GE220.out) | exact HB.out))⟩; clear HO242 HO_14 HO_221000 BK220 HB hq_; have HO242 := n0_; have HO_14 := n1_; have HO_221000 := n2_; have BK220 := n3_; have HB := n4_; clear n0_ n1_ n2_ n3_ n4_)); have hcz96_0 : w93.cell? ⟨gb220, 0, none⟩ = some (.slice Ao92 x221000_23.length co92) := (blk_cell BK220.out 0).trans rfl; have hcz96_1 : w93.cell? ⟨gb220, 1, none⟩ = some (.int .i64 (t219.size : Int)) := (blk_cell BK220.out 1).trans rfl; have hcz96_2 : w93.cell? ⟨gb220, 2, none⟩ = some (.int .i64 (wrap64 ((x8_5.size : Int) - (t219.size : Int)))) := (blk_cell BK220.out 2).trans rfl; have hcz96_3 : w93.cell? ⟨gb220, 3, none⟩ = some (.int .i64 0) := (blk_cell BK220.out 3).trans rfl; have hcz96_4 : w93.cell? ⟨gb220, 4, none⟩ = some (.int .i64 0) := (blk_cell BK220.out 4).trans rfl; have hcz96_5 : w93.cell? ⟨gb220, 5, none⟩ = some (.int .i64 0) := (blk_cell BK220.out 5).trans rfl; have hcz96_6 : w93.cell? ⟨gb220, 6, none⟩ = some (.int .i64 0) := (blk_cell BK220.out 6).trans rfl; have hcz96_7 : w93.cell? ⟨gb220, 7, none⟩ = some (.int .i64 0) := (blk_cell BK220.out 7).trans rfl; have hcz96_8 : w93.cell? ⟨gb220, 8, none⟩ = some (.int .i64 0) := (blk_cell BK220.out 8).trans rfl; have hfz96_0 := blk_frozen BK220.out 0; have hfz96_1 := blk_frozen BK220.out 1; have hfz96_2 := blk_frozen BK220.out 2; have hfz96_3 := blk_frozen BK220.out 3; have hfz96_4 := blk_frozen BK220.out 4; have hfz96_5 := blk_frozen BK220.out 5; have hfz96_6 := blk_frozen BK220.out 6; have hfz96_7 := blk_frozen BK220.out 7; have hfz96_8 := blk_frozen BK220.out 8) | ((with_reducible refine gate_callee (f := 55) rfl ?_); refine goesL_ (some 135) rfl rfl Try.func55 (by kernel_rfl) rfl #[.string (x8_5 ++ (⟨#[109, 111, 114, 101, 0]⟩ : ByteArray)), .agg #[.slice Ao92 x221000_23.length co92, .int .i64 (t219.size : Int), .int .i64 (wrap64 ((x8_5.size : Int) - (t219.size : Int))), .int .i64 0, .int .i64 0, .int .i64 0, .int .i64 0, .int .i64 0, .int .i64 0], .int .i64 (wrap64 ((x8_5.size : Int) - (t219.size : Int)))] rfl (by (try simp only [List.map_toArray, List.map_cons, List.map_nil]); first | done | rfl | (simp only [List.length_drop, List.length_take]; rfl)) ?_; (with_reducible refine (dynamic_Name.calls kj23 (x8_5 ++ (⟨#[109, 111, 114, 101, 0]⟩ : ByteArray)) _ _ x221000_23 (t219.size : Int) (wrap64 ((x8_5.size : Int) - (t219.size : Int))) 0 0 0 0 0 0 (wrap64 ((x8_5.size : Int) - (t219.size : Int))) t245 t246 _ ?side1 ?side2 A48.out).mono ?_); (case side1 => repeat (first | exact (Kd.R_reads' HO_221000.out).2.2 | (with_reducible refine Kd.C_alloc ?_ _) | (with_reducible refine Kd.C_drewN ?_ _) | (with_reducible refine Kd.C_drew ?_))); (case side2 => exact (Kd.R_reads' HO_221000.out).2.1); rintro e w97 ⟨rfl, hb⟩; refine ⟨_, rfl, ?_⟩; have n0_ := Aside0.mk (Kd.R_below (by (with_reducible repeat (first | apply Kd.R_alloc | apply Kd.R_drewN | apply Kd.R_drew)); exact HO_14.out) hb); have n1_ := Aside0.mk (Kd.R_below (by (with_reducible repeat (first | apply Kd.R_alloc | apply Kd.R_drewN | apply Kd.R_drew)); exact HO_221000.out) hb); have n2_ := Aside0.mk (Kd.R_below (by (with_reducible repeat (first | apply Kd.R_alloc | apply Kd.R_drewN | apply Kd.R_drew)); exact HO242.out) hb); have n3_ := Aside0.mk (blk_below (g := gb220) (o := .cells #[.slice Ao92 x221000_23.length co92, .int .i64 (t219.size : Int), .int .i64 (wrap64 ((x8_5.size : Int) - (t219.size : Int))), .int .i64 0, .int .i64 0, .int .i64 0, .int .i64 0, .int .i64 0, .int .i64 0] 54 (0, 0)) (by (with_reducible repeat (first | refine blk_drewN ?_ _ | refine blk_drew ?_ | refine blk_alloc ?_ _)); exact BK220.out) hb); have n4_ := Aside0.mk (below_step (by repeat (first | (with_reducible first | exact HB.out | apply below_alloc | apply pw_below_drewN | apply below_drew1 | refine below_set ?_ GE220.out) | exact HB.out)) hb); clear HO_14; clear HO_221000; clear HO242; clear BK220; clear HB; have HO_14 := n0_; have HO_221000 := n1_; have HO242 := n2_; have BK220 := n3_; have HB := n4_; clear n0_ n1_ n2_ n3_ n4_; (try clear hb); (try clear hb2); (try clear hk); (try clear hi); have hcz98_0 : w97.cell? ⟨gb220, 0, none⟩ = some (.slice Ao92 x221000_23.length co92) := (blk_cell BK220.out 0).trans rfl; have hcz98_1 : w97.cell? ⟨gb220, 1, none⟩ = some (.int .i64 (t219.size : Int)) := (blk_cell BK220.out 1).trans rfl; have hcz98_2 : w97.cell? ⟨gb220, 2, none⟩ = some (.int .i64 (wrap64 ((x8_5.size : Int) - (t219.size : Int)))) := (blk_cell BK220.out 2).trans rfl; have hcz98_3 : w97.cell? ⟨gb220, 3, none⟩ = some (.int .i64 0) := (blk_cell BK220.out 3).trans rfl; have hcz98_4 : w97.cell? ⟨gb220, 4, none⟩ = some (.int .i64 0) := (blk_cell BK220.out 4).trans rfl; have hcz98_5 : w97.cell? ⟨gb220, 5, none⟩ = some (.int .i64 0) := (blk_cell BK220.out 5).trans rfl; have hcz98_6 : w97.cell? ⟨gb220, 6, none⟩ = some (.int .i64 0) := (blk_cell BK220.out 6).trans rfl; have hcz98_7 : w97.cell? ⟨gb220, 7, none⟩ = some (.int .i64 0) := (blk_cell BK220.out 7).trans rfl; have hcz98_8 : w97.cell? ⟨gb220, 8, none⟩ = some (.int .i64 0) := (blk_cell BK220.out 8).trans rfl; have hfz98_0 := blk_frozen BK220.out 0; have hfz98_1 := blk_frozen BK220.out 1; have hfz98_2 := blk_frozen BK220.out 2; have hfz98_3 := blk_frozen BK220.out 3; have hfz98_4 := blk_frozen BK220.out 4; have hfz98_5 := blk_frozen BK220.out 5; have hfz98_6 := blk_frozen BK220.out 6; have hfz98_7 := blk_frozen BK220.out 7; have hfz98_8 := blk_frozen BK220.out 8) | ((with_reducible refine gate_builtin (b := .append) (xs := #[.tmp 139, .tmp 142]) rfl ?_); (try (refine gate_guard (by rfl) ?_; dsimp only)); at_builtin; refine Kd.R_append (Kd.int .i64) (w0 := w) w.heap.size rfl (.tmp 139) (.tmp 142) 25 3 (.int .i64 0) 8 rfl Try.underlying25 info3 rfl (by decide) (by omega) (.slice Ao92 x221000_23.length co92) x221000_23 (wrap64 ((x8_5.size : Int) - (t219.size : Int))) [.int .i64 (wrap64 ((x8_5.size : Int) - (t219.size : Int)))] (fun _ => True) (fun _ => False) rfl rfl ?aP (fun _ hk => hk.elim) ?aF ?aO ?aB ?aS ?aL ?_; (case aP => exact rfl); (case aB => exact (by repeat (first | (with_reducible first | exact HB.out | apply below_alloc | apply pw_below_drewN | apply below_drew1 | refine below_set ?_ GE220.out) | exact HB.out))); (case aF => exact (fun _ _ => trivial)); (case aO => exact (by (with_reducible repeat (first | apply Kd.R_alloc | apply Kd.R_drewN | apply Kd.R_drew)); exact HO_221000.out)); (case aS => exact (below_size (by repeat (first | (with_reducible first | exact HB.out | apply below_alloc | apply pw_below_drewN | apply below_drew1 | refine below_set ?_ GE220.out) | exact HB.out)))); (case aL => have := LMc49.out; omega); intro v248 w99 ho hb hg hat; rw [← Ny247.out] at ho; have n0_ := Aside0.mk (Kd.R_over' (by (with_reducible repeat (first | apply Kd.R_alloc | apply Kd.R_drewN | apply Kd.R_drew)); exact HO_14.out) (Kd.R_typed (by (with_reducible repeat (first | apply Kd.R_alloc | apply Kd.R_drewN | apply Kd.R_drew)); exact HO_221000.out)) (by decide) hg); have n1_ := Aside0.mk (blk_grown (g := gb220) (o := .cells #[.slice Ao92 x221000_23.length co92, .int .i64 (t219.size : Int), .int .i64 (wrap64 ((x8_5.size : Int) - (t219.size : Int))), .int .i64 0, .int .i64 0, .int .i64 0, .int .i64 0, .int .i64 0, .int .i64 0] 54 (0, 0)) (by (with_reducible repeat (first | refine blk_drewN ?_ _ | refine blk_drew ?_ | refine blk_alloc ?_ _)); exact BK220.out) hg (Kd.R_ne HO_221000.out BK220.out (by decide))); have n2_ := Aside0.mk (Kd.R_over' (by (with_reducible repeat (first | apply Kd.R_alloc | apply Kd.R_drewN | apply Kd.R_drew)); exact HO242.out) (Kd.R_typed (by (with_reducible repeat (first | apply Kd.R_alloc | apply Kd.R_drewN | apply Kd.R_drew)); exact HO_221000.out)) (by decide) hg); have n3_ := Aside0.mk (hb); have n4_ := Aside0.mk (ho); clear HO_14; clear BK220; clear HO242; clear HB; clear HO_221000; have HO_14 := n0_; have BK220 := n1_; have HO242 := n2_; have HB := n3_; have HO249 := n4_; clear n0_ n1_ n2_ n3_ n4_; clear ho hb hg hat; obtain ⟨Ao100, co100, eo100⟩ := Kd.R_slice HO249.out; subst eo100; have hcz101_0 : w99.cell? ⟨gb220, 0, none⟩ = some (.slice Ao92 x221000_23.length co92) := (blk_cell BK220.out 0).trans rfl; have hcz101_1 : w99.cell? ⟨gb220, 1, none⟩ = some (.int .i64 (t219.size : Int)) := (blk_cell BK220.out 1).trans rfl; have hcz101_2 : w99.cell? ⟨gb220, 2, none⟩ = some (.int .i64 (wrap64 ((x8_5.size : Int) - (t219.size : Int)))) := (blk_cell BK220.out 2).trans rfl; have hcz101_3 : w99.cell? ⟨gb220, 3, none⟩ = some (.int .i64 0) := (blk_cell BK220.out 3).trans rfl; have hcz101_4 : w99.cell? ⟨gb220, 4, none⟩ = some (.int .i64 0) := (blk_cell BK220.out 4).trans rfl; have hcz101_5 : w99.cell? ⟨gb220, 5, none⟩ = some (.int .i64 0) := (blk_cell BK220.out 5).trans rfl; have hcz101_6 : w99.cell? ⟨gb220, 6, none⟩ = some (.int .i64 0) := (blk_cell BK220.out 6).trans rfl; have hcz101_7 : w99.cell? ⟨gb220, 7, none⟩ = some (.int .i64 0) := (blk_cell BK220.out 7).trans rfl; have hcz101_8 : w99.cell? ⟨gb220, 8, none⟩ = some (.int .i64 0) := (blk_cell BK220.out 8).trans rfl; have hfz101_0 := blk_frozen BK220.out 0; have hfz101_1 := blk_frozen BK220.out 1; have hfz101_2 := blk_frozen BK220.out 2; have hfz101_3 := blk_frozen BK220.out 3; have hfz101_4 := blk_frozen BK220.out 4; have hfz101_5 := blk_frozen BK220.out 5; have hfz101_6 := blk_frozen BK220.out 6; have hfz101_7 := blk_frozen BK220.out 7; have hfz101_8 := blk_frozen BK220.out 8) | ((with_reducible refine gate_callee (f := 53) rfl ?_); refine goesL_ (some 149) rfl rfl Try.func53 (by kernel_rfl) rfl #[.string (x8_5 ++ (⟨#[109, 111, 114, 101, 0]⟩ : ByteArray)), .agg #[.slice Ao100 y247.length co100, .int .i64 (t219.size : Int), .int .i64 (wrap64 ((x8_5.size : Int) - (t219.size : Int))), .int .i64 0, .int .i64 0, .int .i64 0, .int .i64 0, .int .i64 0, .int .i64 0]] rfl (by (try simp only [List.map_toArray, List.map_cons, List.map_nil]); first | done | rfl | (simp only [List.length_drop, List.length_take]; rfl)) ?_; (with_reducible refine (dynamic_Names.calls kj23 (x8_5 ++ (⟨#[109, 111, 114, 101, 0]⟩ : ByteArray)) _ _ y247 (t219.size : Int) (wrap64 ((x8_5.size : Int) - (t219.size : Int))) 0 0 0 0 0 0 t250 t253 _ ?side1 ?side2 A50.out).mono ?_); (case side1 => refine (Kd.R_reads' (e := 3) (base := w.heap.size) (ok := fun k_ => True) (n := y247.length) (c := co100) ?_).2.2; exact (by (with_reducible repeat (first | apply Kd.R_alloc | apply Kd.R_drewN | apply Kd.R_drew)); exact (Kd.R_mono (Kd.R_far (p := ⟨gb220, 0, none⟩) (Kd.R_types HO249.out BK220.out (by decide)) (fun _ hk => hk.2) (.slice Ao100 y247.length co100)) (fun _ h_ => h_.1)))); (case side2 => exact (Kd.R_reads' HO249.out).2.1); rintro e w102 ⟨v251, rfl, ho0, hb⟩; refine ⟨_, rfl, ?_⟩; have n0_ := Aside0.mk (Kd.R_elder' (by (with_reducible repeat (first | apply Kd.R_alloc | apply Kd.R_drewN | apply Kd.R_drew)); exact (Kd.R_mono (Kd.R_far (p := ⟨gb220, 0, none⟩) (Kd.R_types HO_14.out BK220.out (by decide)) (fun _ hk => hk.2) (.slice Ao100 y247.length co100)) (fun _ h_ => h_.1))) (Kd.R_base ho0) hb); have n1_ := Aside0.mk (Kd.R_elder' (by (with_reducible repeat (first | apply Kd.R_alloc | apply Kd.R_drewN | apply Kd.R_drew)); exact (Kd.R_mono (Kd.R_far (p := ⟨gb220, 0, none⟩) (Kd.R_types HO242.out BK220.out (by decide)) (fun _ hk => hk.2) (.slice Ao100 y247.length co100)) (fun _ h_ => h_.1))) (Kd.R_base ho0) hb); have n2_ := Aside0.mk (Kd.R_below (by (with_reducible repeat (first | apply Kd.R_alloc | apply Kd.R_drewN | apply Kd.R_drew)); exact (Kd.R_mono (Kd.R_far (p := ⟨gb220, 0, none⟩) (Kd.R_types HO249.out BK220.out (by decide)) (fun _ hk => hk.2) (.slice Ao100 y247.length co100)) (fun _ h_ => h_.1))) hb); have n3_ := Aside0.mk (Kd.R_lower (Kd.R_new' (Kd.R_new' ho0 (Kd.R_lt (by (with_reducible repeat (first | apply Kd.R_alloc | apply Kd.R_drewN | apply Kd.R_drew)); exact (Kd.R_mono (Kd.R_far (p := ⟨gb220, 0, none⟩) (Kd.R_types HO_14.out BK220.out (by decide)) (fun _ hk => hk.2) (.slice Ao100 y247.length co100)) (fun _ h_ => h_.1))))) (Kd.R_lt (by (with_reducible repeat (first | apply Kd.R_alloc | apply Kd.R_drewN | apply Kd.R_drew)); exact (Kd.R_mono (Kd.R_far (p := ⟨gb220, 0, none⟩) (Kd.R_types HO242.out BK220.out (by decide)) (fun _ hk => hk.2) (.slice Ao100 y247.length co100)) (fun _ h_ => h_.1))))) (below_size (by repeat (first | (with_reducible first | exact HB.out | apply below_alloc | apply pw_below_drewN | apply below_drew1 | refine below_set ?_ GE220.out) | exact HB.out)))); have n4_ := Aside0.mk (blk_below (g := gb220) (o := .cells #[.slice Ao100 y247.length co100, .int .i64 (t219.size : Int), .int .i64 (wrap64 ((x8_5.size : Int) - (t219.size : Int))), .int .i64 0, .int .i64 0, .int .i64 0, .int .i64 0, .int .i64 0, .int .i64 0] 54 (0, 0)) (by (with_reducible repeat (first | refine blk_drewN ?_ _ | refine blk_drew ?_ | refine blk_alloc ?_ _)); refine blk_put (cs := #[.slice Ao92 x221000_23.length co92, .int .i64 (t219.size : Int), .int .i64 (wrap64 ((x8_5.size : Int) - (t219.size : Int))), .int .i64 0, .int .i64 0, .int .i64 0, .int .i64 0, .int .i64 0, .int .i64 0]) ?_ 0 _ rfl; (with_reducible repeat (first | refine blk_drewN ?_ _ | refine blk_drew ?_ | refine blk_alloc ?_ _)); exact BK220.out) hb); have n5_ := Aside0.mk (below_step (by repeat (first | (with_reducible first | exact HB.out | apply below_alloc | apply pw_below_drewN | apply below_drew1 | refine below_set ?_ GE220.out) | exact HB.out)) hb); clear HO_14; clear HO242; clear HO249; clear BK220; clear HB; have HO_14 := n0_; have HO242 := n1_; have HO249 := n2_; have HO252 := n3_; have BK220 := n4_; have HB := n5_; clear n0_ n1_ n2_ n3_ n4_ n5_; (try clear hb); (try clear hb2); (try clear hk); (try clear hi); (try clear ho0)))
                  go_ret
                  exact ⟨by first | rfl | (simp [errW_none, errW_some] <;> rfl) | (simp [*, errW_none, errW_some] <;> rfl), by repeat (first | (with_reducible first | exact HB.out | apply below_alloc | apply pw_below_drewN | apply below_drew1 | refine below_set ?_ GE220.out) | exact HB.out)⟩
              · replace c51 := Bool.eq_false_iff.mpr c51
                subst c51
                have H1 : (some false) = some r := by rw [if_neg (show ¬ (false = true) by decide)] at H; exact H
                clear H
                have H := H1
                clear H1
                obtain rfl := Option.some.inj H
                have hcz103_0 : wc.cell? ⟨gb220, 0, none⟩ = some (u221000) := (blk_cell BK220.out 0).trans rfl
                have hcz103_1 : wc.cell? ⟨gb220, 1, none⟩ = some (.int .i64 (t219.size : Int)) := (blk_cell BK220.out 1).trans rfl
                have hcz103_2 : wc.cell? ⟨gb220, 2, none⟩ = some (.int .i64 (wrap64 ((x8_5.size : Int) - (t219.size : Int)))) := (blk_cell BK220.out 2).trans rfl
                have hcz103_3 : wc.cell? ⟨gb220, 3, none⟩ = some (.int .i64 0) := (blk_cell BK220.out 3).trans rfl
                have hcz103_4 : wc.cell? ⟨gb220, 4, none⟩ = some (.int .i64 0) := (blk_cell BK220.out 4).trans rfl
                have hcz103_5 : wc.cell? ⟨gb220, 5, none⟩ = some (.int .i64 0) := (blk_cell BK220.out 5).trans rfl
                have hcz103_6 : wc.cell? ⟨gb220, 6, none⟩ = some (.int .i64 0) := (blk_cell BK220.out 6).trans rfl
                have hcz103_7 : wc.cell? ⟨gb220, 7, none⟩ = some (.int .i64 0) := (blk_cell BK220.out 7).trans rfl
                have hcz103_8 : wc.cell? ⟨gb220, 8, none⟩ = some (.int .i64 0) := (blk_cell BK220.out 8).trans rfl
                have hfz103_0 := blk_frozen BK220.out 0
                have hfz103_1 := blk_frozen BK220.out 1
                have hfz103_2 := blk_frozen BK220.out 2
                have hfz103_3 := blk_frozen BK220.out 3
                have hfz103_4 := blk_frozen BK220.out 4
                have hfz103_5 := blk_frozen BK220.out 5
                have hfz103_6 := blk_frozen BK220.out 6
                have hfz103_7 := blk_frozen BK220.out 7
                have hfz103_8 := blk_frozen BK220.out 8
                obtain ⟨Ao104, co104, eo104⟩ := Kd.R_slice HO_221000.out
                subst eo104
                go_wp2_with (first | ((with_reducible refine gate_callee (f := 53) rfl ?_); refine goesL_ (some 123) rfl rfl Try.func53 (by kernel_rfl) rfl #[.string (x8_5 ++ (⟨#[109, 111, 114, 101, 0]⟩ : ByteArray)), .agg #[.slice Ao104 x221000_23.length co104, .int .i64 (t219.size : Int), .int .i64 (wrap64 ((x8_5.size : Int) - (t219.size : Int))), .int .i64 0, .int .i64 0, .int .i64 0, .int .i64 0, .int .i64 0, .int .i64 0]] rfl (by (try simp only [List.map_toArray, List.map_cons, List.map_nil]); first | done | rfl | (simp only [List.length_drop, List.length_take]; rfl)) ?_; (with_reducible refine (dynamic_Names.calls kj23 (x8_5 ++ (⟨#[109, 111, 114, 101, 0]⟩ : ByteArray)) _ _ x221000_23 (t219.size : Int) (wrap64 ((x8_5.size : Int) - (t219.size : Int))) 0 0 0 0 0 0 t240 t243 _ ?side1 ?side2 A46.out).mono ?_); (case side1 => repeat (first | exact (Kd.R_reads' HO_221000.out).2.2 | (with_reducible refine Kd.C_alloc ?_ _) | (with_reducible refine Kd.C_drewN ?_ _) | (with_reducible refine Kd.C_drew ?_))); (case side2 => exact (Kd.R_reads' HO_221000.out).2.1); rintro e w105 ⟨v241, rfl, ho0, hb⟩; refine ⟨_, rfl, ?_⟩; have n0_ := Aside0.mk (Kd.R_elder' (by (with_reducible repeat (first | apply Kd.R_alloc | apply Kd.R_drewN | apply Kd.R_drew)); exact HO_14.out) (Kd.R_base ho0) hb); have n1_ := Aside0.mk (Kd.R_below (by (with_reducible repeat (first | apply Kd.R_alloc | apply Kd.R_drewN | apply Kd.R_drew)); exact HO_221000.out) hb); have n2_ := Aside0.mk (Kd.R_lower (Kd.R_new' ho0 (Kd.R_lt (by (with_reducible repeat (first | apply Kd.R_alloc | apply Kd.R_drewN | apply Kd.R_drew)); exact HO_14.out))) (below_size (by repeat (first | (with_reducible first | exact HB.out | apply below_alloc | apply pw_below_drewN | apply below_drew1 | refine below_set ?_ GE220.out) | exact HB.out)))); have n3_ := Aside0.mk (blk_below (g := gb220) (o := .cells #[.slice Ao104 x221000_23.length co104, .int .i64 (t219.size : Int), .int .i64 (wrap64 ((x8_5.size : Int) - (t219.size : Int))), .int .i64 0, .int .i64 0, .int .i64 0, .int .i64 0, .int .i64 0, .int .i64 0] 54 (0, 0)) (by (with_reducible repeat (first | refine blk_drewN ?_ _ | refine blk_drew ?_ | refine blk_alloc ?_ _)); exact BK220.out) hb); have n4_ := Aside0.mk (below_step (by repeat (first | (with_reducible first | exact HB.out | apply below_alloc | apply pw_below_drewN | apply below_drew1 | refine below_set ?_ GE220.out) | exact HB.out)) hb); clear HO_14; clear HO_221000; clear BK220; clear HB; have HO_14 := n0_; have HO_221000 := n1_; have HO242 := n2_; have BK220 := n3_; have HB := n4_; clear n0_ n1_ n2_ n3_ n4_; (try clear hb); (try clear hb2); (try clear hk); (try clear hi); (try clear ho0); obtain ⟨Ao106, co106, eo106⟩ := Kd.R_slice HO242.out; subst eo106; obtain ⟨Ao107, co107, eo107⟩ := Kd.R_slice HO_14.out; subst eo107) | ((with_reducible refine gate_callee (f := 54) rfl ?_); refine goesL_ (some 128) rfl rfl Try.func54 (by kernel_rfl) rfl #[.slice Ao106 t240.length co106, .slice Ao107 x14_23.length co107] rfl (by (try simp only [List.map_toArray, List.map_cons, List.map_nil]); first | done | rfl | (simp only [List.length_drop, List.length_take]; rfl)) ?_; (with_reducible refine (flyleafref09_SameTexts.calls kj23 _ _ t240 _ _ x14_23 t244 _ ?side1 ?side2 ?side3 ?side4 A47.out).mono ?_); (case side1 => repeat (first | exact (Kd.R_reads' HO242.out).2.2 | (with_reducible refine Kd.C_alloc ?_ _) | (with_reducible refine Kd.C_drewN ?_ _) | (with_reducible refine Kd.C_drew ?_))); (case side2 => exact (Kd.R_reads' HO242.out).2.1); (case side3 => repeat (first | exact (Kd.R_reads' HO_14.out).2.2 | (with_reducible refine Kd.C_alloc ?_ _) | (with_reducible refine Kd.C_drewN ?_ _) | (with_reducible refine Kd.C_drew ?_))); (case side4 => exact (Kd.R_reads' HO_14.out).2.1); rintro e w' ⟨rfl, ⟨nd, rfl⟩⟩; refine ⟨_, rfl, ?_⟩; (try (rw [drewN_self w105]; generalize hq_ : World.drewN w105 _ = w105; have n0_ : Aside0 (Kd.R Kd.string 9 w105 w.heap.size (fun k_ => some k_ ≠ (.slice Ao107 x14_23.length co107 : Value).ownBlock) (.slice Ao106 t240.length co106) t240) := ⟨by rw [← hq_]; exact (by (with_reducible repeat (first | apply Kd.R_alloc | apply Kd.R_drewN | apply Kd.R_drew)); exact Kd.R_mono HO242.out (fun _ hk => hk.2))⟩; have n1_ : Aside0 (Kd.R Kd.string 9 w105 w.heap.size (fun k_ => some k_ ≠ (.slice Ao106 t240.length co106 : Value).ownBlock) (.slice Ao107 x14_23.length co107) x14_23) := ⟨by rw [← hq_]; exact (by (with_reducible repeat (first | apply Kd.R_alloc | apply Kd.R_drewN | apply Kd.R_drew)); exact Kd.R_mono HO_14.out (fun _ hk => hk.2))⟩; have n2_ : Aside0 (Kd.R (Kd.int .i64) 3 w105 w.heap.size (fun _ => True) (.slice Ao104 x221000_23.length co104) x221000_23) := ⟨by rw [← hq_]; exact (by (with_reducible repeat (first | apply Kd.R_alloc | apply Kd.R_drewN | apply Kd.R_drew)); exact HO_221000.out)⟩; have n3_ : Aside0 (w105.heap[gb220]? = some (.cells #[.slice Ao104 x221000_23.length co104, .int .i64 (t219.size : Int), .int .i64 (wrap64 ((x8_5.size : Int) - (t219.size : Int))), .int .i64 0, .int .i64 0, .int .i64 0, .int .i64 0, .int .i64 0, .int .i64 0] 54 (0, 0))) := ⟨by rw [← hq_]; exact (by (with_reducible repeat (first | refine blk_drewN ?_ _ | refine blk_drew ?_ | refine blk_alloc ?_ _)); exact BK220.out)⟩; have n4_ : Aside0 (Below w.heap.size w w105) := ⟨by rw [← hq_]; exact (by repeat (first | (with_reducible first | exact HB.out | apply below_alloc | apply pw_below_drewN | apply below_drew1 | refine below_set ?_ GE220.out) | exact HB.out))⟩; clear HO242 HO_14 HO_221000 BK220 HB hq_; have HO242 := n0_; have HO_14 := n1_; have HO_221000 := n2_; have BK220 := n3_; have HB := n4_; clear n0_ n1_ n2_ n3_ n4_)); have hcz108_0 : w105.cell? ⟨gb220, 0, none⟩ = some (.slice Ao104 x221000_23.length co104) := (blk_cell BK220.out 0).trans rfl; have hcz108_1 : w105.cell? ⟨gb220, 1, none⟩ = some (.int .i64 (t219.size : Int)) := (blk_cell BK220.out 1).trans rfl; have hcz108_2 : w105.cell? ⟨gb220, 2, none⟩ = some (.int .i64 (wrap64 ((x8_5.size : Int) - (t219.size : Int)))) := (blk_cell BK220.out 2).trans rfl; have hcz108_3 : w105.cell? ⟨gb220, 3, none⟩ = some (.int .i64 0) := (blk_cell BK220.out 3).trans rfl; have hcz108_4 : w105.cell? ⟨gb220, 4, none⟩ = some (.int .i64 0) := (blk_cell BK220.out 4).trans rfl; have hcz108_5 : w105.cell? ⟨gb220, 5, none⟩ = some (.int .i64 0) := (blk_cell BK220.out 5).trans rfl; have hcz108_6 : w105.cell? ⟨gb220, 6, none⟩ = some (.int .i64 0) := (blk_cell BK220.out 6).trans rfl; have hcz108_7 : w105.cell? ⟨gb220, 7, none⟩ = some (.int .i64 0) := (blk_cell BK220.out 7).trans rfl; have hcz108_8 : w105.cell? ⟨gb220, 8, none⟩ = some (.int .i64 0) := (blk_cell BK220.out 8).trans rfl; have hfz108_0 := blk_frozen BK220.out 0; have hfz108_1 := blk_frozen BK220.out 1; have hfz108_2 := blk_frozen BK220.out 2; have hfz108_3 := blk_frozen BK220.out 3; have hfz108_4 := blk_frozen BK220.out 4; have hfz108_5 := blk_frozen BK220.out 5; have hfz108_6 := blk_frozen BK220.out 6; have hfz108_7 := blk_frozen BK220.out 7; have hfz108_8 := blk_frozen BK220.out 8) | ((with_reducible refine gate_callee (f := 55) rfl ?_); refine goesL_ (some 135) rfl rfl Try.func55 (by kernel_rfl) rfl #[.string (x8_5 ++ (⟨#[109, 111, 114, 101, 0]⟩ : ByteArray)), .agg #[.slice Ao104 x221000_23.length co104, .int .i64 (t219.size : Int), .int .i64 (wrap64 ((x8_5.size : Int) - (t219.size : Int))), .int .i64 0, .int .i64 0, .int .i64 0, .int .i64 0, .int .i64 0, .int .i64 0], .int .i64 (wrap64 ((x8_5.size : Int) - (t219.size : Int)))] rfl (by (try simp only [List.map_toArray, List.map_cons, List.map_nil]); first | done | rfl | (simp only [List.length_drop, List.length_take]; rfl)) ?_; (with_reducible refine (dynamic_Name.calls kj23 (x8_5 ++ (⟨#[109, 111, 114, 101, 0]⟩ : ByteArray)) _ _ x221000_23 (t219.size : Int) (wrap64 ((x8_5.size : Int) - (t219.size : Int))) 0 0 0 0 0 0 (wrap64 ((x8_5.size : Int) - (t219.size : Int))) t245 t246 _ ?side1 ?side2 A48.out).mono ?_); (case side1 => repeat (first | exact (Kd.R_reads' HO_221000.out).2.2 | (with_reducible refine Kd.C_alloc ?_ _) | (with_reducible refine Kd.C_drewN ?_ _) | (with_reducible refine Kd.C_drew ?_))); (case side2 => exact (Kd.R_reads' HO_221000.out).2.1); rintro e w109 ⟨rfl, hb⟩; refine ⟨_, rfl, ?_⟩; have n0_ := Aside0.mk (Kd.R_below (by (with_reducible repeat (first | apply Kd.R_alloc | apply Kd.R_drewN | apply Kd.R_drew)); exact HO_14.out) hb); have n1_ := Aside0.mk (Kd.R_below (by (with_reducible repeat (first | apply Kd.R_alloc | apply Kd.R_drewN | apply Kd.R_drew)); exact HO_221000.out) hb); have n2_ := Aside0.mk (Kd.R_below (by (with_reducible repeat (first | apply Kd.R_alloc | apply Kd.R_drewN | apply Kd.R_drew)); exact HO242.out) hb); have n3_ := Aside0.mk (blk_below (g := gb220) (o := .cells #[.slice Ao104 x221000_23.length co104, .int .i64 (t219.size : Int), .int .i64 (wrap64 ((x8_5.size : Int) - (t219.size : Int))), .int .i64 0, .int .i64 0, .int .i64 0, .int .i64 0, .int .i64 0, .int .i64 0] 54 (0, 0)) (by (with_reducible repeat (first | refine blk_drewN ?_ _ | refine blk_drew ?_ | refine blk_alloc ?_ _)); exact BK220.out) hb); have n4_ := Aside0.mk (below_step (by repeat (first | (with_reducible first | exact HB.out | apply below_alloc | apply pw_below_drewN | apply below_drew1 | refine below_set ?_ GE220.out) | exact HB.out)) hb); clear HO_14; clear HO_221000; clear HO242; clear BK220; clear HB; have HO_14 := n0_; have HO_221000 := n1_; have HO242 := n2_; have BK220 := n3_; have HB := n4_; clear n0_ n1_ n2_ n3_ n4_; (try clear hb); (try clear hb2); (try clear hk); (try clear hi); have hcz110_0 : w109.cell? ⟨gb220, 0, none⟩ = some (.slice Ao104 x221000_23.length co104) := (blk_cell BK220.out 0).trans rfl; have hcz110_1 : w109.cell? ⟨gb220, 1, none⟩ = some (.int .i64 (t219.size : Int)) := (blk_cell BK220.out 1).trans rfl; have hcz110_2 : w109.cell? ⟨gb220, 2, none⟩ = some (.int .i64 (wrap64 ((x8_5.size : Int) - (t219.size : Int)))) := (blk_cell BK220.out 2).trans rfl; have hcz110_3 : w109.cell? ⟨gb220, 3, none⟩ = some (.int .i64 0) := (blk_cell BK220.out 3).trans rfl; have hcz110_4 : w109.cell? ⟨gb220, 4, none⟩ = some (.int .i64 0) := (blk_cell BK220.out 4).trans rfl; have hcz110_5 : w109.cell? ⟨gb220, 5, none⟩ = some (.int .i64 0) := (blk_cell BK220.out 5).trans rfl; have hcz110_6 : w109.cell? ⟨gb220, 6, none⟩ = some (.int .i64 0) := (blk_cell BK220.out 6).trans rfl; have hcz110_7 : w109.cell? ⟨gb220, 7, none⟩ = some (.int .i64 0) := (blk_cell BK220.out 7).trans rfl; have hcz110_8 : w109.cell? ⟨gb220, 8, none⟩ = some (.int .i64 0) := (blk_cell BK220.out 8).trans rfl; have hfz110_0 := blk_frozen BK220.out 0; have hfz110_1 := blk_frozen BK220.out 1; have hfz110_2 := blk_frozen BK220.out 2; have hfz110_3 := blk_frozen BK220.out 3; have hfz110_4 := blk_frozen BK220.out 4; have hfz110_5 := blk_frozen BK220.out 5; have hfz110_6 := blk_frozen BK220.out 6; have hfz110_7 := blk_frozen BK220.out 7; have hfz110_8 := blk_frozen BK220.out 8) | ((with_reducible refine gate_builtin (b := .append) (xs := #[.tmp 139, .tmp 142]) rfl ?_); (try (refine gate_guard (by rfl) ?_; dsimp only)); at_builtin; refine Kd.R_append (Kd.int .i64) (w0 := w) w.heap.size rfl (.tmp 139) (.tmp 142) 25 3 (.int .i64 0) 8 rfl Try.underlying25 info3 rfl (by decide) (by omega) (.slice Ao104 x221000_23.length co104) x221000_23 (wrap64 ((x8_5.size : Int) - (t219.size : Int))) [.int .i64 (wrap64 ((x8_5.size : Int) - (t219.size : Int)))] (fun _ => True) (fun _ => False) rfl rfl ?aP (fun _ hk => hk.elim) ?aF ?aO ?aB ?aS ?aL ?_; (case aP => exact rfl); (case aB => exact (by repeat (first | (with_reducible first | exact HB.out | apply below_alloc | apply pw_below_drewN | apply below_drew1 | refine below_set ?_ GE220.out) | exact HB.out))); (case aF => exact (fun _ _ => trivial)); (case aO => exact (by (with_reducible repeat (first | apply Kd.R_alloc | apply Kd.R_drewN | apply Kd.R_drew)); exact HO_221000.out)); (case aS => exact (below_size (by repeat (first | (with_reducible first | exact HB.out | apply below_alloc | apply pw_below_drewN | apply below_drew1 | refine below_set ?_ GE220.out) | exact HB.out)))); (case aL => have := LMc49.out; omega); intro v248 w111 ho hb hg hat; rw [← Ny247.out] at ho; have n0_ := Aside0.mk (Kd.R_over' (by (with_reducible repeat (first | apply Kd.R_alloc | apply Kd.R_drewN | apply Kd.R_drew)); exact HO_14.out) (Kd.R_typed (by (with_reducible repeat (first | apply Kd.R_alloc | apply Kd.R_drewN | apply Kd.R_drew)); exact HO_221000.out)) (by decide) hg); have n1_ := Aside0.mk (blk_grown (g := gb220) (o := .cells #[.slice Ao104 x221000_23.length co104, .int .i64 (t219.size : Int), .int .i64 (wrap64 ((x8_5.size : Int) - (t219.size : Int))), .int .i64 0, .int .i64 0, .int .i64 0, .int .i64 0, .int .i64 0, .int .i64 0] 54 (0, 0)) (by (with_reducible repeat (first | refine blk_drewN ?_ _ | refine blk_drew ?_ | refine blk_alloc ?_ _)); exact BK220.out) hg (Kd.R_ne HO_221000.out BK220.out (by decide))); have n2_ := Aside0.mk (Kd.R_over' (by (with_reducible repeat (first | apply Kd.R_alloc | apply Kd.R_drewN | apply Kd.R_drew)); exact HO242.out) (Kd.R_typed (by (with_reducible repeat (first | apply Kd.R_alloc | apply Kd.R_drewN | apply Kd.R_drew)); exact HO_221000.out)) (by decide) hg); have n3_ := Aside0.mk (hb); have n4_ := Aside0.mk (ho); clear HO_14; clear BK220; clear HO242; clear HB; clear HO_221000; have HO_14 := n0_; have BK220 := n1_; have HO242 := n2_; have HB := n3_; have HO249 := n4_; clear n0_ n1_ n2_ n3_ n4_; clear ho hb hg hat; obtain ⟨Ao112, co112, eo112⟩ := Kd.R_slice HO249.out; subst eo112; have hcz113_0 : w111.cell? ⟨gb220, 0, none⟩ = some (.slice Ao104 x221000_23.length co104) := (blk_cell BK220.out 0).trans rfl; have hcz113_1 : w111.cell? ⟨gb220, 1, none⟩ = some (.int .i64 (t219.size : Int)) := (blk_cell BK220.out 1).trans rfl; have hcz113_2 : w111.cell? ⟨gb220, 2, none⟩ = some (.int .i64 (wrap64 ((x8_5.size : Int) - (t219.size : Int)))) := (blk_cell BK220.out 2).trans rfl; have hcz113_3 : w111.cell? ⟨gb220, 3, none⟩ = some (.int .i64 0) := (blk_cell BK220.out 3).trans rfl; have hcz113_4 : w111.cell? ⟨gb220, 4, none⟩ = some (.int .i64 0) := (blk_cell BK220.out 4).trans rfl; have hcz113_5 : w111.cell? ⟨gb220, 5, none⟩ = some (.int .i64 0) := (blk_cell BK220.out 5).trans rfl; have hcz113_6 : w111.cell? ⟨gb220, 6, none⟩ = some (.int .i64 0) := (blk_cell BK220.out 6).trans rfl; have hcz113_7 : w111.cell? ⟨gb220, 7, none⟩ = some (.int .i64 0) := (blk_cell BK220.out 7).trans rfl; have hcz113_8 : w111.cell? ⟨gb220, 8, none⟩ = some (.int .i64 0) := (blk_cell BK220.out 8).trans rfl; have hfz113_0 := blk_frozen BK220.out 0; have hfz113_1 := blk_frozen BK220.out 1; have hfz113_2 := blk_frozen BK220.out 2; have hfz113_3 := blk_frozen BK220.out 3; have hfz113_4 := blk_frozen BK220.out 4; have hfz113_5 := blk_frozen BK220.out 5; have hfz113_6 := blk_frozen BK220.out 6; have hfz113_7 := blk_frozen BK220.out 7; have hfz113_8 := blk_frozen BK220.out 8) | ((with_reducible refine gate_callee (f := 53) rfl ?_); refine goesL_ (some 149) rfl rfl Try.func53 (by kernel_rfl) rfl #[.string (x8_5 ++ (⟨#[109, 111, 114, 101, 0]⟩ : ByteArray)), .agg #[.slice Ao112 y247.length co112, .int .i64 (t219.size : Int), .int .i64 (wrap64 ((x8_5.size : Int) - (t219.size : Int))), .int .i64 0, .int .i64 0, .int .i64 0, .int .i64 0, .int .i64 0, .int .i64 0]] rfl (by (try simp only [List.map_toArray, List.map_cons, List.map_nil]); first | done | rfl | (simp only [List.length_drop, List.length_take]; rfl)) ?_; (with_reducible refine (dynamic_Names.calls kj23 (x8_5 ++ (⟨#[109, 111, 114, 101, 0]⟩ : ByteArray)) _ _ y247 (t219.size : Int) (wrap64 ((x8_5.size : Int) - (t219.size : Int))) 0 0 0 0 0 0 t250 t253 _ ?side1 ?side2 A50.out).mono ?_); (case side1 => refine (Kd.R_reads' (e := 3) (base := w.heap.size) (ok := fun k_ => True) (n := y247.length) (c := co112) ?_).2.2; exact (by (with_reducible repeat (first | apply Kd.R_alloc | apply Kd.R_drewN | apply Kd.R_drew)); exact (Kd.R_mono (Kd.R_far (p := ⟨gb220, 0, none⟩) (Kd.R_types HO249.out BK220.out (by decide)) (fun _ hk => hk.2) (.slice Ao112 y247.length co112)) (fun _ h_ => h_.1)))); (case side2 => exact (Kd.R_reads' HO249.out).2.1); rintro e w114 ⟨v251, rfl, ho0, hb⟩; refine ⟨_, rfl, ?_⟩; have n0_ := Aside0.mk (Kd.R_elder' (by (with_reducible repeat (first | apply Kd.R_alloc | apply Kd.R_drewN | apply Kd.R_drew)); exact (Kd.R_mono (Kd.R_far (p := ⟨gb220, 0, none⟩) (Kd.R_types HO_14.out BK220.out (by decide)) (fun _ hk => hk.2) (.slice Ao112 y247.length co112)) (fun _ h_ => h_.1))) (Kd.R_base ho0) hb); have n1_ := Aside0.mk (Kd.R_elder' (by (with_reducible repeat (first | apply Kd.R_alloc | apply Kd.R_drewN | apply Kd.R_drew)); exact (Kd.R_mono (Kd.R_far (p := ⟨gb220, 0, none⟩) (Kd.R_types HO242.out BK220.out (by decide)) (fun _ hk => hk.2) (.slice Ao112 y247.length co112)) (fun _ h_ => h_.1))) (Kd.R_base ho0) hb); have n2_ := Aside0.mk (Kd.R_below (by (with_reducible repeat (first | apply Kd.R_alloc | apply Kd.R_drewN | apply Kd.R_drew)); exact (Kd.R_mono (Kd.R_far (p := ⟨gb220, 0, none⟩) (Kd.R_types HO249.out BK220.out (by decide)) (fun _ hk => hk.2) (.slice Ao112 y247.length co112)) (fun _ h_ => h_.1))) hb); have n3_ := Aside0.mk (Kd.R_lower (Kd.R_new' (Kd.R_new' ho0 (Kd.R_lt (by (with_reducible repeat (first | apply Kd.R_alloc | apply Kd.R_drewN | apply Kd.R_drew)); exact (Kd.R_mono (Kd.R_far (p := ⟨gb220, 0, none⟩) (Kd.R_types HO_14.out BK220.out (by decide)) (fun _ hk => hk.2) (.slice Ao112 y247.length co112)) (fun _ h_ => h_.1))))) (Kd.R_lt (by (with_reducible repeat (first | apply Kd.R_alloc | apply Kd.R_drewN | apply Kd.R_drew)); exact (Kd.R_mono (Kd.R_far (p := ⟨gb220, 0, none⟩) (Kd.R_types HO242.out BK220.out (by decide)) (fun _ hk => hk.2) (.slice Ao112 y247.length co112)) (fun _ h_ => h_.1))))) (below_size (by repeat (first | (with_reducible first | exact HB.out | apply below_alloc | apply pw_below_drewN | apply below_drew1 | refine below_set ?_ GE220.out) | exact HB.out)))); have n4_ := Aside0.mk (blk_below (g := gb220) (o := .cells #[.slice Ao112 y247.length co112, .int .i64 (t219.size : Int), .int .i64 (wrap64 ((x8_5.size : Int) - (t219.size : Int))), .int .i64 0, .int .i64 0, .int .i64 0, .int .i64 0, .int .i64 0, .int .i64 0] 54 (0, 0)) (by (with_reducible repeat (first | refine blk_drewN ?_ _ | refine blk_drew ?_ | refine blk_alloc ?_ _)); refine blk_put (cs := #[.slice Ao104 x221000_23.length co104, .int .i64 (t219.size : Int), .int .i64 (wrap64 ((x8_5.size : Int) - (t219.size : Int))), .int .i64 0, .int .i64 0, .int .i64 0, .int .i64 0, .int .i64 0, .int .i64 0]) ?_ 0 _ rfl; (with_reducible repeat (first | refine blk_drewN ?_ _ | refine blk_drew ?_ | refine blk_alloc ?_ _)); exact BK220.out) hb); have n5_ := Aside0.mk (below_step (by repeat (first | (with_reducible first | exact HB.out | apply below_alloc | apply pw_below_drewN | apply below_drew1 | refine below_set ?_ GE220.out) | exact HB.out)) hb); clear HO_14; clear HO242; clear HO249; clear BK220; clear HB; have HO_14 := n0_; have HO242 := n1_; have HO249 := n2_; have HO252 := n3_; have BK220 := n4_; have HB := n5_; clear n0_ n1_ n2_ n3_ n4_ n5_; (try clear hb); (try clear hb2); (try clear hk); (try clear hi); (try clear ho0)))
                go_ret
                exact ⟨by first | rfl | (simp [errW_none, errW_some] <;> rfl) | (simp [*, errW_none, errW_some] <;> rfl), by repeat (first | (with_reducible first | exact HB.out | apply below_alloc | apply pw_below_drewN | apply below_drew1 | refine below_set ?_ GE220.out) | exact HB.out)⟩
            · rw [if_neg c49] at H
              exact absurd H (by simp)
          · rw [if_neg c45] at H
            exact absurd H (by simp)

end Go.Proofs.Ytafmeagfockdfaa.Fl
