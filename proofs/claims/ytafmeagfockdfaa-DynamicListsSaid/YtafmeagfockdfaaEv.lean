/-
  Ev's steps, for whatever family.
-/
import Derived.Test.YtafmeagfockdfaaVNEv
namespace Go.Proofs.Ytafmeagfockdfaa.Evs
open Go.RowKit Go.Proofs.YtafmeagfockdfaaW.PrintWords
theorem Ev.pos {α : Type} {c : Prop} [Decidable c] {a b : Nat → Option α} {r : α} (h : c) (k : Ev a r) : Ev (fun n => if c then a n else b n) r :=
  Ev.congr (fun _ => if_pos h) k
theorem Ev.neg {α : Type} {c : Prop} [Decidable c] {a b : Nat → Option α} {r : α} (h : ¬ c) (k : Ev b r) : Ev (fun n => if c then a n else b n) r :=
  Ev.congr (fun _ => if_neg h) k
theorem Ev.succ {α : Type} {g : Nat → Option α} {r : α} (h : Ev (fun k => g (k + 1)) r) : Ev g r := Ev.step (f := fun k => g (k + 1)) (fun _ => rfl) h
theorem Ev.some {α : Type} {x r : α} (h : x = r) : Ev (fun _ => Option.some x) r := by subst h; exact Ev.now _
theorem Ev.eq {α : Type} {g : Nat → Option α} {x r : α} (k : Ev g x) (h : x = r) : Ev g r := by subst h; exact k
theorem Ev.pure {α β : Type} {g : Option α} {f : Nat → α → Option β} {a : α} {r : β} (h : g = Option.some a) (k : Ev (fun n => f n a) r) : Ev (fun n => g.bind (f n)) r := by
  subst h; exact k
end Go.Proofs.Ytafmeagfockdfaa.Evs
