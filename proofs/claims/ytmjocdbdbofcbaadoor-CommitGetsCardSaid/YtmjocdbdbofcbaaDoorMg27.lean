/-
  Part of the proof of a statement about the given program: an abstract machine over its code, the simulation, its functions' equations, what they compute.
-/
import Derived.Test.YtmjocdbdbofcbaaDoorMg13
import Derived.Test.YtmjocdbdbofcbaaDoorMg24
import Derived.Test.YtmjocdbdbofcbaaDoorMg26
section
namespace Go.Proofs.YtmjocdbdbofcbaaDoor
open Go AM
theorem commitGets_said : Rows.CommitGetsCardSaid := RowCommitGets.card fun vs h => by
  obtain ⟨a, us, rfl, ha, h⟩ := okVs_c h
  obtain rfl := okVs_n h
  obtain ⟨s, rfl, _⟩ := dec_str K_9 und_9 ha
  exact ⟨_, cgets_am⟩
#print axioms commitGets_said
end Go.Proofs.YtmjocdbdbofcbaaDoor
end
