-- Written by rows.py, a program of this session: how the arguments of PlaceFills are opened, and its pure statement.
import Derived.Test.YtafmeagfockdfaaProg
import Derived.KernelRfl
import Derived.Test.YtafmeagfockdfaaPl9
import Derived.Test.YtafmeagfockdfaaOpen
namespace Go.Proofs.Ytafmeagfockdfaa.Pl
open Go Go.RowKit Go.Proofs.YtafmeagfockdfaaW.PrintWords
namespace OpPlaceFills
theorem op3 : Opens Try.prog 3 (Kd.int .i64) (fun x : Int => (Lit.int .i64 x).wf = true) := opens_int Try.underlying3 (by kernel_rfl)
theorem op25 : Opens Try.prog 25 (Kd.slice 3 (Kd.int .i64)) (fun xs : List Int => xs.length ≤ maxLen ∧ ∀ x ∈ xs, (fun x : Int => (Lit.int .i64 x).wf = true) x) := opens_slice Try.underlying25 (by kernel_rfl) op3
end OpPlaceFills
/-- THE PURE STATEMENT of PlaceFills. -/
def PlaceFills.Said : Prop := ∀ (x0 : List Int) (x1 : Int), (fun xs : List Int => xs.length ≤ maxLen ∧ ∀ x ∈ xs, (fun x : Int => (Lit.int .i64 x).wf = true) x) x0 → (fun x : Int => (Lit.int .i64 x).wf = true) x1 → ∃ k, flyleaflaw13_PlaceFills.f k x0 x1 = some true
end Go.Proofs.Ytafmeagfockdfaa.Pl
