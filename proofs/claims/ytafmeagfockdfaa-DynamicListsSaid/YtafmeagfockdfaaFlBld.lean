/-
  A builder of strings behind a call that leaves what was there as it was; texts put together.
-/
import Derived.Test.YtafmeagfockdfaaFlLe
import Derived.Test.YtafmeagfockdfaaShelf
import Derived.Laws.AppendOwn
namespace Go.Proofs.Ytafmeagfockdfaa.Fl
open Go.Proofs.Ytafmeagfockdfaa.Evs Go.RowKit Go.Proofs.YtafmeagfockdfaaW.PrintWords
set_option linter.unusedVariables false

theorem grown_of_below {a w : World} (h : Below a.heap.size a w) (row : Option Nat) : a.grownBy w row := ⟨h.os, h.tape, h.output, h.size, fun i hi _ => h.block i hi⟩
theorem bld_below {B b : Nat} {p : Value} {bs : List Value} {w w' : World} (h : Lib.BuilderAt 147 5 B b p bs w) (hb : Below w.heap.size w w') : Lib.BuilderAt 147 5 B b p bs w' := by
  have hlt := h.lt
  obtain ⟨h1, v, h2, h3, h4⟩ := h
  exact ⟨h1, v, (hb.block b hlt).trans h2, h3.kept (grown_of_below hb none) (by
    cases v.ownBlock with
    | none => exact .inl rfl
    | some k => exact .inr (by simp)), h4⟩
theorem isbld_below {B b : Nat} {bs : List Value} {w w' : World} (h : Lib.IsBuilder 147 5 B b bs w) (hb : Below w.heap.size w w') : Lib.IsBuilder 147 5 B b bs w' := h.imp (fun x => bld_below x hb) (fun x => bld_below x hb)
theorem isbld_lt {B b : Nat} {bs : List Value} {w : World} (h : Lib.IsBuilder 147 5 B b bs w) : b < w.heap.size := by rcases h with h | h <;> exact h.lt
theorem ba_append (a b : List UInt8) : (⟨a.toArray⟩ : ByteArray) ++ (⟨b.toArray⟩ : ByteArray) = ⟨(a ++ b).toArray⟩ := by
  apply ByteArray.ext
  simp
theorem ba_size (a : List UInt8) : (⟨a.toArray⟩ : ByteArray).size = a.length := by simp [ByteArray.size]
theorem ba_list (a : List UInt8) : (⟨a.toArray⟩ : ByteArray).data.toList = a := rfl
theorem ba_of (s : ByteArray) : (⟨s.data.toList.toArray⟩ : ByteArray) = s := by cases s; simp
end Go.Proofs.Ytafmeagfockdfaa.Fl
