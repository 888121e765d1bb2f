-- Written by rows.py, a program of this session: how the arguments of PlaceApart are opened, and its pure statement.
import Derived.Test.YtafmeagfockdfaaProg
import Derived.KernelRfl
import Derived.Test.YtafmeagfockdfaaPl7
import Derived.Test.YtafmeagfockdfaaOpen
namespace Go.Proofs.Ytafmeagfockdfaa.Pl
open Go Go.RowKit Go.Proofs.YtafmeagfockdfaaW.PrintWords
namespace OpPlaceApart
set_option maxRecDepth 100000 in
theorem op3 : Opens Try.prog 3 (Kd.int .i64) (fun x : Int => (Lit.int .i64 x).wf = true) := opens_int Try.underlying3 (by kernel_rfl)
set_option maxRecDepth 100000 in
theorem op32 : Opens Try.prog 32 k32 (fun x : S32 => (fun x : Int => (Lit.int .i64 x).wf = true) x.f0 ∧ (fun x : Int => (Lit.int .i64 x).wf = true) x.f1) := (opens_array Try.underlying32 (by kernel_rfl) (opensI_cons (by kernel_rfl) op3 (opensI_one (by kernel_rfl) op3)) (fun x : S32 => (x.f0, x.f1)) (fun p => (⟨p.1, p.2⟩ : S32)) (fun _ => rfl)).imp (fun x h => h)
set_option maxRecDepth 100000 in
theorem op31 : Opens Try.prog 31 (Kd.slice 32 k32) (fun xs : List (S32) => xs.length ≤ maxLen ∧ ∀ x ∈ xs, (fun x : S32 => (fun x : Int => (Lit.int .i64 x).wf = true) x.f0 ∧ (fun x : Int => (Lit.int .i64 x).wf = true) x.f1) x) := opens_slice Try.underlying31 (by kernel_rfl) op32
end OpPlaceApart
/-- THE PURE STATEMENT of PlaceApart. -/
def PlaceApart.Said : Prop := ∀ (x0 : List (S32)) (x1 : S32), (fun xs : List (S32) => xs.length ≤ maxLen ∧ ∀ x ∈ xs, (fun x : S32 => (fun x : Int => (Lit.int .i64 x).wf = true) x.f0 ∧ (fun x : Int => (Lit.int .i64 x).wf = true) x.f1) x) x0 → (fun x : S32 => (fun x : Int => (Lit.int .i64 x).wf = true) x.f0 ∧ (fun x : Int => (Lit.int .i64 x).wf = true) x.f1) x1 → ∃ k, flyleaflaw13_PlaceApart.f k x0 x1.f0 x1.f1 = some true
end Go.Proofs.Ytafmeagfockdfaa.Pl
