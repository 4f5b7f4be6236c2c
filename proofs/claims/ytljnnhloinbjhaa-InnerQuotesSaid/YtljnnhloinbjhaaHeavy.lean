/- Three closed facts on the program that cost the kernel a minute each, proved once for all rows of the seat. No statement of its own. -/
import Derived.Test.YtljnnhloinbjhaaChecked
import Derived.Test.YtljnnhloinbjhaaRows
import Derived.JoinedOf
namespace Go.Proofs.Ytljnnhloinbjhaa.Opn
open Go.ChangeShapes Go.WideShapes
theorem hv_both {a b : Bool} (h1 : a = true) (h2 : b = true) : (a && b) = true := by rw [h1, h2]; rfl
theorem hv_enter0 : Try.prog.mayEnter = true := by kernel_rfl
theorem hv_enter : Try.pinned.checked.prog.mayEnter = true := hv_enter0
theorem hv_make0 : Try.prog.make = some .cut := by kernel_rfl
theorem hv_make {m : Make} (h : m = .cut) : (Try.pinned.checked.prog.make == some m) = true := by rw [h]; exact (beq_iff_eq.2 hv_make0)
theorem hv_lifts0 : Try.prog.liftsFinal = false := by kernel_rfl
theorem hv_lifts {m : Bool} (h : m = false) : (m == Try.pinned.checked.prog.liftsFinal) = true := by rw [h]; exact (beq_iff_eq.2 hv_lifts0.symm)
end Go.Proofs.Ytljnnhloinbjhaa.Opn
