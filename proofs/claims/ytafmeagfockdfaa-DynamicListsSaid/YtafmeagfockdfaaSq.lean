/-
  Short names, for texts that would be too long.
-/
import Derived.Below
import Derived.Test.YtafmeagfockdfaaVMore
namespace Go.Proofs.Ytafmeagfockdfaa.Sq
open Go.RowKit
abbrev t_ : Bool := true
abbrev f_ : Bool := false
theorem sA_ {α : Type _} (l : List α) (i : Nat) (a : α) : l.toArray.setIfInBounds i a = (l.set i a).toArray := List.setIfInBounds_toArray ..
theorem sB_ {α : Type _} (x y : α) (l : List α) : (x :: l).set 0 y = y :: l := rfl
theorem sC_ {α : Type _} (x y : α) (l : List α) (n : Nat) : (x :: l).set (n + 1) y = x :: l.set n y := rfl
theorem up_ {w w1 : World} {p : Addr} {v : Value} (h : w.cell? p = some v) (hb : Below w.heap.size w w1) : w1.cell? p = some v := (hb.cell (World.block_lt_of_cell? w _ h)).trans h
end Go.Proofs.Ytafmeagfockdfaa.Sq
