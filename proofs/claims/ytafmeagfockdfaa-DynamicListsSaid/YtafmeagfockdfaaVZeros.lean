-- Words that the kit's printer has laid, cut down to what is used (by prune.py, a program of this session). Not trusted: Lean checks it.
import Derived.Test.YtafmeagfockdfaaVApart
import Derived.Test.YtafmeagfockdfaaVArr
namespace Go.Proofs.YtafmeagfockdfaaW.PrintWords
open Go.RowKit
section
variable {P : Program}
end
namespace Kd
section
variable {P : Program} {ops : Array Oper} {rest : List Oper} {o : Oper} {a : Act} {Q : Exit → Act → World → Prop} {Kc : Act → World → Prop} {α : Type}
end
section
variable {α : Type} {d : Kd α} {e : Nat} {w : World} {base : Nat} {ok : Nat → Prop} {v : Value} {xs : List α}
end
section
variable {P : Program} {ops : Array Oper} {rest : List Oper} {o : Oper} {a : Act} {Q : Exit → Act → World → Prop} {Kc : Act → World → Prop} {α : Type}
end
end Kd
end Go.Proofs.YtafmeagfockdfaaW.PrintWords

