-- Words that the kit's printer has laid, cut down to what is used (by prune.py, a program of this session). Not trusted: Lean checks it.
import Derived.Test.YtafmeagfockdfaaVN
namespace Go.Proofs.YtafmeagfockdfaaW.PrintWords
open Go.RowKit
namespace Kd
section
variable {α : Type} {d : Kd α} {W : World} {g n : Nat} {S ok : Nat → Prop} {A : Option Addr} {ad : Addr} {xs : List α}
end
end Kd
end Go.Proofs.YtafmeagfockdfaaW.PrintWords

