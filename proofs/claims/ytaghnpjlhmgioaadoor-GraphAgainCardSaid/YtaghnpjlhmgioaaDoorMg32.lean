/-
  Part of the proof of a statement about the given program: an abstract machine over its code, the simulation, its functions' equations, what they compute.
-/
import Derived.Test.YtaghnpjlhmgioaaDoorMg14
import Derived.Test.YtaghnpjlhmgioaaDoorMg26
import Derived.Test.YtaghnpjlhmgioaaDoorMg31
section
namespace Go.Proofs.YtaghnpjlhmgioaaDoor
open Go AM
theorem graphAgain_said : Rows.GraphAgainCardSaid := RowGraphAgain.card fun vs h => by
 obtain ⟨a, us, rfl, ha, h⟩ := okVs_c h
 obtain rfl := okVs_n h
 obtain ⟨s, rfl, _⟩ := dec_str (n := 7) K_9 und_9 ha
 exact ⟨_, again_am s⟩
#print axioms graphAgain_said
end Go.Proofs.YtaghnpjlhmgioaaDoor
end
