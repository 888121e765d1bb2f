-- Written by rows.py, a program of this session: how the arguments of DynamicBack are opened, and its pure statement.
import Derived.Test.YtafmeagfockdfaaProg
import Derived.KernelRfl
import Derived.Test.YtafmeagfockdfaaFl8
import Derived.Test.YtafmeagfockdfaaOpen
namespace Go.Proofs.Ytafmeagfockdfaa.Fl
open Go Go.RowKit Go.Proofs.YtafmeagfockdfaaW.PrintWords
namespace OpDynamicBack
set_option maxRecDepth 100000 in
theorem op3 : Opens Try.prog 3 (Kd.int .i64) (fun x : Int => (Lit.int .i64 x).wf = true) := opens_int Try.underlying3 (by kernel_rfl)
set_option maxRecDepth 100000 in
theorem op25 : Opens Try.prog 25 (Kd.slice 3 (Kd.int .i64)) (fun xs : List Int => xs.length ≤ maxLen ∧ ∀ x ∈ xs, (fun x : Int => (Lit.int .i64 x).wf = true) x) := opens_slice Try.underlying25 (by kernel_rfl) op3
set_option maxRecDepth 100000 in
theorem op90 : Opens Try.prog 90 k90 (fun x : S90 => (fun x : Int => (Lit.int .i64 x).wf = true) x.f0 ∧ (fun x : Int => (Lit.int .i64 x).wf = true) x.f1 ∧ (fun x : Int => (Lit.int .i64 x).wf = true) x.f2 ∧ (fun x : Int => (Lit.int .i64 x).wf = true) x.f3 ∧ (fun x : Int => (Lit.int .i64 x).wf = true) x.f4 ∧ (fun x : Int => (Lit.int .i64 x).wf = true) x.f5 ∧ (fun x : Int => (Lit.int .i64 x).wf = true) x.f6) := (opens_array Try.underlying90 (by kernel_rfl) (opensI_cons (by kernel_rfl) op3 (opensI_cons (by kernel_rfl) op3 (opensI_cons (by kernel_rfl) op3 (opensI_cons (by kernel_rfl) op3 (opensI_cons (by kernel_rfl) op3 (opensI_cons (by kernel_rfl) op3 (opensI_one (by kernel_rfl) op3))))))) (fun x : S90 => (x.f0, x.f1, x.f2, x.f3, x.f4, x.f5, x.f6)) (fun p => (⟨p.1, p.2.1, p.2.2.1, p.2.2.2.1, p.2.2.2.2.1, p.2.2.2.2.2.1, p.2.2.2.2.2.2⟩ : S90)) (fun _ => rfl)).imp (fun x h => h)
set_option maxRecDepth 100000 in
theorem op9 : Opens Try.prog 9 Kd.string (fun s : ByteArray => s.size ≤ maxLen) := opens_string Try.underlying9 (by kernel_rfl)
end OpDynamicBack
/-- THE PURE STATEMENT of DynamicBack. -/
def DynamicBack.Said : Prop := ∀ (x0 : List Int) (x1 : S90) (x2 : ByteArray), (fun xs : List Int => xs.length ≤ maxLen ∧ ∀ x ∈ xs, (fun x : Int => (Lit.int .i64 x).wf = true) x) x0 → (fun x : S90 => (fun x : Int => (Lit.int .i64 x).wf = true) x.f0 ∧ (fun x : Int => (Lit.int .i64 x).wf = true) x.f1 ∧ (fun x : Int => (Lit.int .i64 x).wf = true) x.f2 ∧ (fun x : Int => (Lit.int .i64 x).wf = true) x.f3 ∧ (fun x : Int => (Lit.int .i64 x).wf = true) x.f4 ∧ (fun x : Int => (Lit.int .i64 x).wf = true) x.f5 ∧ (fun x : Int => (Lit.int .i64 x).wf = true) x.f6) x1 → (fun s : ByteArray => s.size ≤ maxLen) x2 → ∃ k, flyleaflaw09_DynamicBack.f k x0 x1.f0 x1.f1 x1.f2 x1.f3 x1.f4 x1.f5 x1.f6 x2 = some true
end Go.Proofs.Ytafmeagfockdfaa.Fl
