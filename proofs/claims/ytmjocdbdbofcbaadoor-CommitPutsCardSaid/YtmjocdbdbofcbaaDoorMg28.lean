/-
  Part of the proof of a statement about the given program: an abstract machine over its code, the simulation, its functions' equations, what they compute.
-/
import Derived.Test.YtmjocdbdbofcbaaDoorMg13
import Derived.Test.YtmjocdbdbofcbaaDoorMg24
import Derived.Test.YtmjocdbdbofcbaaDoorMg25
import Derived.Test.YtmjocdbdbofcbaaDoorMg27
section
namespace Go.Proofs.YtmjocdbdbofcbaaDoor
open Go AM
theorem commitPuts_said : Rows.CommitPutsCardSaid := RowCommitPuts.card fun vs h => by
  obtain ⟨a, us, rfl, ha, h⟩ := okVs_c h
  obtain rfl := okVs_n h
  obtain ⟨f, c, rfl, hc, hl, hf⟩ := dec_cmt (n := 4) ha
  exact ⟨_, puts_am hf hc hl⟩
#print axioms commitPuts_said
end Go.Proofs.YtmjocdbdbofcbaaDoor
end
