-- Words that the kit's printer has laid, cut down to what is used (by prune.py, a program of this session). Not trusted: Lean checks it.
import Derived.Test.YtafmeagfockdfaaVTab
namespace Go.Proofs.YtafmeagfockdfaaW.PrintLast
section
variable {P : Program} {ops : Array Oper} {Q : Exit → Act → World → Prop} {md : Region.Mode} {S : World → Prop} {ds : List Nat} {T : Bool × List (List Nat × List Nat)}
end
end Go.Proofs.YtafmeagfockdfaaW.PrintLast

