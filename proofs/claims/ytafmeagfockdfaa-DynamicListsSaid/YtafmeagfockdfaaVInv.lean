-- Words that the kit's printer has laid, cut down to what is used (by prune.py, a program of this session). Not trusted: Lean checks it.
import Derived.Test.YtafmeagfockdfaaVTab
namespace Go.Proofs.YtafmeagfockdfaaW.PrintLast
def up (b : Nat → Bool) (i : Nat) : Nat → Bool := fun j => if j = i then true else b j
section
variable {P : Program} {ops : Array Oper} {Q : Exit → Act → World → Prop} {md : Region.Mode} {T : Bool × List (List Nat × List Nat)} {B : List Nat} {O : List Nat} {b : Nat → Bool} {i j n : Nat}
end
end Go.Proofs.YtafmeagfockdfaaW.PrintLast

