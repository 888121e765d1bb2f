-- Words that the kit's printer has laid, cut down to what is used (by prune.py, a program of this session). Not trusted: Lean checks it.
import Derived.Test.YtafmeagfockdfaaVInv
import Derived.Test.YtafmeagfockdfaaVFootNe
namespace Go.Proofs.YtafmeagfockdfaaW.PrintWords
open Go.RowKit
end Go.Proofs.YtafmeagfockdfaaW.PrintWords
namespace Go.Proofs.YtafmeagfockdfaaW.PrintLast
section
variable {ops : Array Oper} {a : Act} {o og : Oper} {g : Nat} {t : Tmp} {u : Bool}
end
end Go.Proofs.YtafmeagfockdfaaW.PrintLast

