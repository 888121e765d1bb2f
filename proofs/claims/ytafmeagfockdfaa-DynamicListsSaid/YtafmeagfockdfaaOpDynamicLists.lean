-- Written by rows.py, a program of this session: how the arguments of DynamicLists are opened, and its pure statement.
import Derived.Test.YtafmeagfockdfaaProg
import Derived.KernelRfl
import Derived.Test.YtafmeagfockdfaaFl9
import Derived.Test.YtafmeagfockdfaaOpen
namespace Go.Proofs.Ytafmeagfockdfaa.Fl
open Go Go.RowKit Go.Proofs.YtafmeagfockdfaaW.PrintWords
namespace OpDynamicLists
set_option maxRecDepth 100000 in
theorem op3 : Opens Try.prog 3 (Kd.int .i64) (fun x : Int => (Lit.int .i64 x).wf = true) := opens_int Try.underlying3 (by kernel_rfl)
set_option maxRecDepth 100000 in
theorem op25 : Opens Try.prog 25 (Kd.slice 3 (Kd.int .i64)) (fun xs : List Int => xs.length ≤ maxLen ∧ ∀ x ∈ xs, (fun x : Int => (Lit.int .i64 x).wf = true) x) := opens_slice Try.underlying25 (by kernel_rfl) op3
end OpDynamicLists
/-- THE PURE STATEMENT of DynamicLists. -/
def DynamicLists.Said : Prop := ∀ (x0 : List Int) (x1 : Int) (x2 : List Int), (fun xs : List Int => xs.length ≤ maxLen ∧ ∀ x ∈ xs, (fun x : Int => (Lit.int .i64 x).wf = true) x) x0 → (fun x : Int => (Lit.int .i64 x).wf = true) x1 → (fun xs : List Int => xs.length ≤ maxLen ∧ ∀ x ∈ xs, (fun x : Int => (Lit.int .i64 x).wf = true) x) x2 → ∃ k, flyleaflaw09_DynamicLists.f k x0 x1 x2 = some true
end Go.Proofs.Ytafmeagfockdfaa.Fl
