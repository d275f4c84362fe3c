/-
  Part of the proof of a statement about the given program: an abstract machine over its code, the simulation, its functions' equations, what they compute.
-/
import Derived.Test.YtmjocdbdbofcbaaDoorMg13
import Derived.Test.YtmjocdbdbofcbaaDoorMg24
import Derived.Test.YtmjocdbdbofcbaaDoorMg25
import Derived.Test.YtmjocdbdbofcbaaDoorMg27
section
namespace Go.Proofs.YtmjocdbdbofcbaaDoor
open Go AM
theorem commitApart_said : Rows.CommitApartCardSaid := RowCommitApart.card fun vs h => by
  obtain ⟨a, us, rfl, ha, h⟩ := okVs_c h
  obtain ⟨b, us, rfl, hb, h⟩ := okVs_c h
  obtain rfl := okVs_n h
  obtain ⟨f, c, rfl, hc, hl, hf⟩ := dec_cmt (n := 4) ha
  obtain ⟨g, d, rfl, hd, hm, hg⟩ := dec_cmt (n := 4) hb
  exact ⟨_, capart_am hf hg hc hd hl hm⟩
#print axioms commitApart_said
end Go.Proofs.YtmjocdbdbofcbaaDoor
end
