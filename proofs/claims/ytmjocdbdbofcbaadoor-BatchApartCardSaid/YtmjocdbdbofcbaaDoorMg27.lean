/-
  Part of the proof of a statement about the given program: an abstract machine over its code, the simulation, its functions' equations, what they compute.
-/
import Derived.Test.YtmjocdbdbofcbaaDoorMg13
import Derived.Test.YtmjocdbdbofcbaaDoorMg24
import Derived.Test.YtmjocdbdbofcbaaDoorMg26
section
namespace Go.Proofs.YtmjocdbdbofcbaaDoor
open Go AM
theorem batchApart_said : Rows.BatchApartCardSaid := RowBatchApart.card fun vs h => by
  obtain ⟨a, us, rfl, ha, h⟩ := okVs_c h
  obtain ⟨b, us, rfl, hb, h⟩ := okVs_c h
  obtain rfl := okVs_n h
  obtain ⟨f, l, rfl, hl, _, _⟩ := dec_msgs (n := 5) ha
  obtain ⟨g, m, rfl, hm, _, _⟩ := dec_msgs (n := 5) hb
  exact ⟨_, apart_am hl hm⟩
#print axioms batchApart_said
end Go.Proofs.YtmjocdbdbofcbaaDoor
end
