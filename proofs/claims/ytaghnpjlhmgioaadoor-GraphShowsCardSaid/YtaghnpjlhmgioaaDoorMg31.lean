/-
  Part of the proof of a statement about the given program: an abstract machine over its code, the simulation, its functions' equations, what they compute.
-/
import Derived.Test.YtaghnpjlhmgioaaDoorMg14
import Derived.Test.YtaghnpjlhmgioaaDoorMg26
import Derived.Test.YtaghnpjlhmgioaaDoorMg27
import Derived.Test.YtaghnpjlhmgioaaDoorMg30
section
namespace Go.Proofs.YtaghnpjlhmgioaaDoor
open Go AM
theorem graphShows_said : Rows.GraphShowsCardSaid := RowGraphShows.card fun vs h => by
 obtain ⟨a, us, rfl, ha, h⟩ := okVs_c h
 obtain rfl := okVs_n h
 obtain ⟨f, g, rfl, _, _, _, hf⟩ := dec_grf (n := 4) ha
 exact ⟨_, shows_am hf g⟩
#print axioms graphShows_said
end Go.Proofs.YtaghnpjlhmgioaaDoor
end
