/-
  How the arguments of RegionOnce are opened; what its walk says.
-/
import Derived.Test.YtafmeagfockdfaaProg
import Derived.KernelRfl
import Derived.Test.YtafmeagfockdfaaRgOnce
import Derived.Test.YtafmeagfockdfaaOpen
namespace Go.Proofs.Ytafmeagfockdfaa.Rg
open Go Go.RowKit Go.Proofs.YtafmeagfockdfaaW.PrintWords
namespace OpRegionOnce
set_option maxRecDepth 100000 in
theorem op3 : Opens Try.prog 3 (Kd.int .i64) (fun x : Int => (Lit.int .i64 x).wf = true) := opens_int Try.underlying3 (by kernel_rfl)
set_option maxRecDepth 100000 in
theorem op39 : Opens Try.prog 39 k39 (fun x : S39 => (fun x : Int => (Lit.int .i64 x).wf = true) x.f0 ∧ (fun x : Int => (Lit.int .i64 x).wf = true) x.f1 ∧ (fun x : Int => (Lit.int .i64 x).wf = true) x.f2 ∧ (fun x : Int => (Lit.int .i64 x).wf = true) x.f3) := (opens_array Try.underlying39 (by kernel_rfl) (opensI_cons (by kernel_rfl) op3 (opensI_cons (by kernel_rfl) op3 (opensI_cons (by kernel_rfl) op3 (opensI_one (by kernel_rfl) op3)))) (fun x : S39 => (x.f0, x.f1, x.f2, x.f3)) (fun p => (⟨p.1, p.2.1, p.2.2.1, p.2.2.2⟩ : S39)) (fun _ => rfl)).imp (fun x h => h)
set_option maxRecDepth 100000 in
theorem op25 : Opens Try.prog 25 (Kd.slice 3 (Kd.int .i64)) (fun xs : List Int => xs.length ≤ maxLen ∧ ∀ x ∈ xs, (fun x : Int => (Lit.int .i64 x).wf = true) x) := opens_slice Try.underlying25 (by kernel_rfl) op3
end OpRegionOnce
theorem once_calls (A0 : Option Addr) (c0 : Nat) (l0 : List Int) (q0 q1 q2 q3 : Int) (w : World) (hr0 : Kd.C (Kd.int .i64) w A0 l0.length l0) (hc0 : l0.length ≤ c0) (hlen : l0.length * 8 ≤ 140737488351232) :
    Calls Try.prog 7 #[.agg #[.int .i64 q0, .int .i64 q1, .int .i64 q2, .int .i64 q3], .slice A0 l0.length c0] w fun e w' => e = .returned (.bool true) ∧ Below w.heap.size w w' := by
  have h := i64_and1 q3
  have h2 : q3 % 2 = 0 ∨ q3 % 2 = 1 := by omega
  rcases h2 with h2 | h2
  · exact once_zero A0 c0 l0 q0 q1 q2 q3 w hr0 hc0 hlen (h.trans h2)
  · exact once_file A0 c0 l0 q0 q1 q2 q3 w hr0 hc0 hlen (h.trans h2)
end Go.Proofs.Ytafmeagfockdfaa.Rg
