/- The ends of a region are joined: what holds of one frame behind it. -/
import Derived.Test.YtfknhbgghpbkpaaCal
namespace Go.Proofs.Ytfknhbgghpbkpaa.Cal
open Go.RowKit
theorem bdi (b : Bool) : b = false ∨ b = true := by cases b <;> simp
section
variable {dm : List Deferred} {P : Program} {N : Nat} {Q : Exit → Act → World → Prop} {k : List It} {fr fr' : Fr} {w : World} {all : Array Oper} {i : Nat}
theorem join (h1 : TN dm P N Q k fr' w → TO dm P N Q all k fr w i) (h2 : TN dm P N Q k fr' w) : TO dm P N Q all k fr w i := h1 h2
end
end Go.Proofs.Ytfknhbgghpbkpaa.Cal
