/-
  Numbers as bytes, the lowest first: what octet.Put and octet.Get come to.
-/
import Derived.Test.YtafmeagfockdfaaFl3
import Derived.Test.YtafmeagfockdfaaEv
import Derived.Laws.BitsLemmas
namespace Go.Proofs.Ytafmeagfockdfaa.Fl
open Go.Proofs.Ytafmeagfockdfaa.Evs Go.RowKit Go.Proofs.YtafmeagfockdfaaW.PrintWords
set_option linter.unusedVariables false
set_option linter.unusedSimpArgs false

theorem w64 {n : Int} (h : -1000000000000000 ≤ n ∧ n ≤ 1000000000000000) : wrap64 n = n := by unfold wrap64; omega
/-- A number's bytes. -/
def le (n : Nat) : Nat → List UInt8
  | 0 => []
  | w + 1 => UInt8.ofNat (n % 256) :: le (n / 256) w
/-- What bytes say. -/
def val : List UInt8 → Nat
  | [] => 0
  | b :: bs => b.toNat + 256 * val bs
theorem le_length (n w : Nat) : (le n w).length = w := by
  induction w generalizing n with
  | zero => rfl
  | succ w ih => simp [le, ih]
theorem val_le (n w : Nat) : val (le n w) = n % 256 ^ w := by
  induction w generalizing n with
  | zero => simp [le, val, Nat.mod_one]
  | succ w ih =>
    simp only [le, val, ih]
    have h1 : (UInt8.ofNat (n % 256)).toNat = n % 256 := by simp
    rw [h1, Nat.pow_succ, Nat.mul_comm (256 ^ w) 256, Nat.mod_mul]
theorem val_lt (l : List UInt8) : val l < 256 ^ l.length := by
  induction l with
  | nil => simp [val]
  | cons b l ih =>
    simp only [val, List.length_cons, Nat.pow_succ]
    have := b.toNat_lt
    omega
theorem le_val (l : List UInt8) : le (val l) l.length = l := by
  induction l with
  | nil => rfl
  | cons b l ih =>
    have hb : b.toNat < 256 := b.toNat_lt
    simp only [val, List.length_cons, le]
    rw [show (b.toNat + 256 * val l) % 256 = b.toNat by omega, show (b.toNat + 256 * val l) / 256 = val l by omega, ih]
    simp
theorem val_append (l m : List UInt8) : val (l ++ m) = val l + 256 ^ l.length * val m := by
  induction l with
  | nil => simp [val]
  | cons b l ih =>
    simp only [List.cons_append, val, ih, List.length_cons, Nat.pow_succ]
    rw [Nat.mul_add, ← Nat.mul_assoc, Nat.mul_comm 256 (256 ^ l.length)]
    omega
theorem le_get (n w i : Nat) (h : i < w) : (le n w)[i]'(by rw [le_length]; exact h) = UInt8.ofNat (n / 256 ^ i % 256) := by
  induction w generalizing n i with
  | zero => omega
  | succ w ih =>
    cases i with
    | zero => simp [le]
    | succ i =>
      simp only [le, List.getElem_cons_succ]
      rw [ih _ _ (by omega), Nat.div_div_eq_div_mul, Nat.pow_succ, Nat.mul_comm 256]
theorem p256 (i : Nat) : (2 : Int) ^ (8 * i) = ((256 ^ i : Nat) : Int) := by
  have : (256 : Nat) ^ i = 2 ^ (8 * i) := by rw [Nat.pow_mul]
  rw [this, Int.natCast_pow]
  rfl
/-- octet.Put. -/
theorem put_l0 (n w : Nat) (hw : w ≤ 8) : ∀ (d i : Nat) (xs : List Int), i + d = w → xs.length = w → (∀ j, j < i → xs.getD j 0 = ((n / 256 ^ j % 256 : Nat) : Int)) →
    Ev (fun k => octet_Put.l0 k (n : Int) xs (w : Int) (i : Int)) ⟨(le n w).toArray⟩ := by
  intro d
  induction d with
  | zero =>
    intro i xs hi hl hx
    refine Ev.succ ?_
    simp only [octet_Put.l0]
    refine Ev.neg (by omega) (Ev.some ?_)
    unfold strOfNums
    congr 2
    refine List.ext_getElem (by simp [le_length, hl]) (fun j h1 h2 => ?_)
    rw [List.getElem_map, le_get n w j (by simpa [hl] using h1)]
    have := hx j (by simp at h1; omega)
    rw [List.getD_eq_getElem?_getD, List.getElem?_eq_getElem (by simp at h1; omega)] at this
    simp only [Option.getD_some] at this
    rw [this, Int.toNat_natCast]
  | succ d ih =>
    intro i xs hi hl hx
    have e1 : wrap64 ((i : Int) + 1) = ((i + 1 : Nat) : Int) := by rw [w64 (by omega)]; omega
    have e2 : wrap64 (8 * (i : Int)) = ((8 * i : Nat) : Int) := by rw [w64 (by omega)]; omega
    refine Ev.succ ?_
    simp only [octet_Put.l0]
    rw [e1, e2]
    refine Ev.pos (by omega) (Ev.pos (by omega) (Ev.pos (by omega) (Ev.pos (by omega) ?_)))
    refine ih (i + 1) _ (by omega) (by simp [hl]) (fun j hj => ?_)
    have e3 : shr .u64 (n : Int) ((8 * i : Nat) : Int) % 256 = ((n / 256 ^ i % 256 : Nat) : Int) := by
      unfold shr
      have : min ((8 * i : Nat) : Int).toNat IntKind.u64.bits = 8 * i := by
        show min ((8 * i : Nat) : Int).toNat 64 = 8 * i
        omega
      rw [this, p256]
      omega
    rw [e3]
    by_cases hji : j = i
    · subst hji
      rw [List.getD_eq_getElem?_getD]
      simp only [Int.toNat_natCast]
      rw [List.getElem?_set_self (by omega)]
      rfl
    · rw [List.getD_eq_getElem?_getD]
      simp only [Int.toNat_natCast]
      rw [List.getElem?_set_ne (Ne.symm hji), ← List.getD_eq_getElem?_getD]
      exact hx j (by omega)
theorem put_ev (n w : Nat) (hw : w ≤ 8) : Ev (fun k => octet_Put.f k (n : Int) (w : Int)) ⟨(le n w).toArray⟩ := by
  unfold octet_Put.f
  have e : mn (mx (w : Int) 0) 8 = (w : Int) := by unfold mn mx; split <;> split <;> omega
  rw [e]
  refine Ev.pos (by omega) (Ev.pos (by omega) (Ev.pure rfl ?_))
  have e2 : (List.replicate ((w : Int).toNat) (0 : Int)).length = w := by simp
  rw [e2]
  exact put_l0 n w hw w 0 _ (by omega) e2 (fun j hj => by omega)
/-- octet.Get's bits. -/
theorem or_bits (a b i : Nat) (ha : a < 256 ^ i) (hb : b < 256) (hi : i < 8) :
    Go.bits .or .u64 (a : Int) (shl .u64 (IntKind.u64.wrap (b : Int)) ((8 * i : Nat) : Int)) = ((a + 256 ^ i * b : Nat) : Int) := by
  have hp : (256 : Nat) ^ i ≤ 256 ^ 7 := Nat.pow_le_pow_right (by omega) (by omega)
  have h256 : (256 : Nat) ^ 7 = 72057594037927936 := by decide
  have hlt : 256 ^ i * b < 18446744073709551616 := by
    calc 256 ^ i * b ≤ 256 ^ 7 * 255 := Nat.mul_le_mul hp (by omega)
      _ < 18446744073709551616 := by decide
  have e1 : IntKind.u64.wrap (b : Int) = (b : Int) := by simp [IntKind.wrap, IntKind.bits, IntKind.signed]; omega
  have e2 : shl .u64 (b : Int) ((8 * i : Nat) : Int) = ((256 ^ i * b : Nat) : Int) := by
    unfold shl
    have : min ((8 * i : Nat) : Int).toNat IntKind.u64.bits = 8 * i := by
      show min ((8 * i : Nat) : Int).toNat 64 = 8 * i
      omega
    rw [this, p256]
    have e : (b : Int) * ((256 ^ i : Nat) : Int) = ((256 ^ i * b : Nat) : Int) := by
      rw [Int.natCast_mul, Int.mul_comm]
    rw [e]
    generalize 256 ^ i * b = m at hlt ⊢
    simp [IntKind.wrap, IntKind.bits, IntKind.signed]
    omega
  rw [e1, e2]
  have ha64 : a < 2 ^ 64 := Nat.lt_of_lt_of_le ha (Nat.le_trans hp (by decide))
  have hsum : a + 256 ^ i * b < 2 ^ 64 := by
    have : 256 ^ i * (b + 1) ≤ 256 ^ 7 * 256 := Nat.mul_le_mul hp (by omega)
    rw [Nat.mul_add] at this
    have : (256 : Nat) ^ 7 * 256 = 2 ^ 64 := by decide
    omega
  have hor : a ||| 256 ^ i * b = a + 256 ^ i * b := by
    have h1 : (256 : Nat) ^ i = 2 ^ (8 * i) := by rw [Nat.pow_mul]
    rw [h1] at ha ⊢
    rw [Nat.or_comm, ← Nat.two_pow_add_eq_or_of_lt ha, Nat.add_comm]
  have hb64 : 256 ^ i * b < 2 ^ 64 := by have : (2 : Nat) ^ 64 = 18446744073709551616 := by decide
                                         omega
  have := (bits_nat .u64 64 (by decide) (fun n h0 h1 => by simp [IntKind.wrap, IntKind.bits, IntKind.signed]; omega) a (256 ^ i * b) ha64 hb64).2
  rw [this, hor]
/-- A byte of a text. -/
theorem bt_get (s : ByteArray) (i : Nat) (h : i < s.data.toList.length) : bt s (i : Int) = ((s.data.toList[i]).toNat : Int) := by
  have h' : i < s.size := by simpa using h
  unfold bt
  rw [dif_pos (by simpa using h')]
  simp only [Int.toNat_natCast]
  rfl
theorem val_take_succ (l : List UInt8) (i : Nat) (h : i < l.length) : val (l.take (i + 1)) = val (l.take i) + 256 ^ i * (l[i]).toNat := by
  rw [List.take_succ_eq_append_getElem h, val_append, List.length_take, Nat.min_eq_left (by omega)]
  simp [val]
/-- octet.Get. -/
theorem get_l0 (s : ByteArray) (at_ w : Nat) (hw : w ≤ 8) (hs : s.size ≤ 1000000000000) (h : at_ + w ≤ s.size) : ∀ (d i : Nat), i + d = w →
    Ev (fun k => octet_Get.l0 k s (at_ : Int) ((val ((s.data.toList.drop at_).take i) : Nat) : Int) (w : Int) (i : Int)) (((val ((s.data.toList.drop at_).take w) : Nat) : Int), true) := by
  have hlen : s.data.toList.length = s.size := by simp
  intro d
  induction d with
  | zero =>
    intro i hi
    have : i = w := by omega
    subst this
    refine Ev.succ ?_
    simp only [octet_Get.l0]
    exact Ev.neg (by omega) (Ev.now _)
  | succ d ih =>
    intro i hi
    have e1 : wrap64 ((i : Int) + 1) = ((i + 1 : Nat) : Int) := by rw [w64 (by omega)]; omega
    have e2 : wrap64 (8 * (i : Int)) = ((8 * i : Nat) : Int) := by rw [w64 (by omega)]; omega
    have e3 : wrap64 ((at_ : Int) + (i : Int)) = ((at_ + i : Nat) : Int) := by rw [w64 (by omega)]; omega
    have hdl : i < (s.data.toList.drop at_).length := by rw [List.length_drop]; omega
    have hb : bt s ((at_ + i : Nat) : Int) = (((s.data.toList.drop at_)[i]).toNat : Int) := by
      rw [bt_get s (at_ + i) (by omega), List.getElem_drop]
    have next := ih (i + 1) (by omega)
    rw [val_take_succ _ i hdl] at next
    refine Ev.succ ?_
    simp only [octet_Get.l0]
    rw [e1, e2, e3, hb, or_bits _ _ i (by
      have := val_lt ((s.data.toList.drop at_).take i)
      rw [List.length_take, Nat.min_eq_left (by omega)] at this
      exact this) (by have := ((s.data.toList.drop at_)[i]).toNat_lt; omega) (by omega)]
    exact Ev.pos (by omega) (Ev.pos (by omega) (Ev.pos (by omega) (Ev.pos (by omega) next)))
/-- What octet.Get tells. -/
def getT (s : ByteArray) (at_ w : Int) : Int × Bool :=
  if 1 ≤ w ∧ w ≤ 8 ∧ 0 ≤ at_ ∧ at_ ≤ s.size ∧ w ≤ s.size - at_ then (((val ((s.data.toList.drop at_.toNat).take w.toNat) : Nat) : Int), true) else (0, false)
theorem within_eq (a n all : Int) (h : -1000000000000 ≤ all ∧ all ≤ 1000000000000) : octet_Within.f a n all = some (decide (a ≥ 0 ∧ n ≥ 0 ∧ a ≤ all ∧ n ≤ all - a)) := by
  unfold octet_Within.f
  by_cases h1 : a ≥ 0
  · rw [if_pos h1]
    by_cases h2 : n ≥ 0
    · rw [if_pos h2]
      by_cases h3 : a ≤ all
      · rw [if_pos h3, w64 (by omega)]
        simp [h1, h2, h3]
      · rw [if_neg h3]; simp [h3]
    · rw [if_neg h2]; simp [h2]
  · rw [if_neg h1]; simp [h1]
theorem get_ev (s : ByteArray) (at_ w : Int) (hs : s.size ≤ 1000000000000) : Ev (fun k => octet_Get.f k s at_ w) (getT s at_ w) := by
  unfold octet_Get.f getT
  have hn : octet_number.f s at_ w = some (decide (1 ≤ w ∧ w ≤ 8 ∧ 0 ≤ at_ ∧ at_ ≤ s.size ∧ w ≤ s.size - at_)) := by
    unfold octet_number.f
    by_cases h1 : w ≥ 1
    · rw [if_pos h1]
      by_cases h2 : w ≤ 8
      · rw [if_pos h2, within_eq _ _ _ (by omega)]
        simp only [Option.bind_some, Option.some.injEq, decide_eq_decide]
        omega
      · rw [if_neg h2]
        simp only [Option.some.injEq]
        rw [eq_comm, decide_eq_false_iff_not]; omega
    · rw [if_neg h1]
      simp only [Option.some.injEq]
      rw [eq_comm, decide_eq_false_iff_not]; omega
  refine Ev.pure hn ?_
  by_cases h : 1 ≤ w ∧ w ≤ 8 ∧ 0 ≤ at_ ∧ at_ ≤ s.size ∧ w ≤ s.size - at_
  · rw [if_pos h]
    refine Ev.pos (decide_eq_true h) ?_
    have := get_l0 s at_.toNat w.toNat (by omega) hs (by omega) w.toNat 0 (by omega)
    rw [List.take_zero] at this
    have e1 : ((at_.toNat : Nat) : Int) = at_ := by omega
    have e2 : ((w.toNat : Nat) : Int) = w := by omega
    rw [e1, e2] at this
    exact this
  · rw [if_neg h]
    exact Ev.neg (by rw [decide_eq_true_iff]; exact h) (Ev.now _)
end Go.Proofs.Ytafmeagfockdfaa.Fl
