-- Written by rows.py, a program of this session: how the arguments of PlaceAll are opened, and its pure statement.
import Derived.Test.YtafmeagfockdfaaProg
import Derived.KernelRfl
import Derived.Test.YtafmeagfockdfaaPl6
import Derived.Test.YtafmeagfockdfaaOpen
namespace Go.Proofs.Ytafmeagfockdfaa.Pl
open Go Go.RowKit Go.Proofs.YtafmeagfockdfaaW.PrintWords
namespace OpPlaceAll
set_option maxRecDepth 100000 in
theorem op3 : Opens Try.prog 3 (Kd.int .i64) (fun x : Int => (Lit.int .i64 x).wf = true) := opens_int Try.underlying3 (by kernel_rfl)
set_option maxRecDepth 100000 in
theorem op34 : Opens Try.prog 34 k34 (fun x : S34 => (fun x : Int => (Lit.int .i64 x).wf = true) x.f0 ∧ (fun x : Int => (Lit.int .i64 x).wf = true) x.f1) := (opens_struct Try.underlying34 (by kernel_rfl) (opensF_cons (by kernel_rfl) op3 (opensF_one (by kernel_rfl) op3)) (fun x : S34 => (x.f0, x.f1)) (fun p => (⟨p.1, p.2⟩ : S34)) (fun _ => rfl)).imp (fun x h => h)
set_option maxRecDepth 100000 in
theorem op22 : Opens Try.prog 22 (Kd.slice 34 k34) (fun xs : List (S34) => xs.length ≤ maxLen ∧ ∀ x ∈ xs, (fun x : S34 => (fun x : Int => (Lit.int .i64 x).wf = true) x.f0 ∧ (fun x : Int => (Lit.int .i64 x).wf = true) x.f1) x) := opens_slice Try.underlying22 (by kernel_rfl) op34
end OpPlaceAll
/-- THE PURE STATEMENT of PlaceAll. -/
def PlaceAll.Said : Prop := ∀ (x0 : List (S34)) (x1 : Int) (x2 : Int), (fun xs : List (S34) => xs.length ≤ maxLen ∧ ∀ x ∈ xs, (fun x : S34 => (fun x : Int => (Lit.int .i64 x).wf = true) x.f0 ∧ (fun x : Int => (Lit.int .i64 x).wf = true) x.f1) x) x0 → (fun x : Int => (Lit.int .i64 x).wf = true) x1 → (fun x : Int => (Lit.int .i64 x).wf = true) x2 → ∃ k, flyleaflaw13_PlaceAll.f k x0 x1 x2 = some true
end Go.Proofs.Ytafmeagfockdfaa.Pl
