/-
  Part of the proof of a statement about the given program: an abstract machine over its code, the simulation, its functions' equations, what they compute.
-/
import Derived.Test.YtmjocdbdbofcbaaDoorMg11
import Derived.Test.YtmjocdbdbofcbaaDoorMg23
section
namespace Go.Proofs.YtmjocdbdbofcbaaDoor
open Go AM
theorem batchBack_said : Rows.BatchBackCardSaid := BackRow.card (fun s hs => ⟨_, back_all s hs⟩)
#print axioms batchBack_said
end Go.Proofs.YtmjocdbdbofcbaaDoor
end
