/-
  Part of the proof of a statement about the given program: an abstract machine over its code, the simulation, its functions' equations, what they compute.
-/
import Derived.Test.YtmjocdbdbofcbaaDoorMg13
import Derived.Test.YtmjocdbdbofcbaaDoorMg24
import Derived.Test.YtmjocdbdbofcbaaDoorMg26
section
namespace Go.Proofs.YtmjocdbdbofcbaaDoor
open Go AM
theorem batchLess_said : Rows.BatchLessCardSaid := RowBatchLess.card fun vs h => by
  obtain ⟨a, us, rfl, ha, h⟩ := okVs_c h
  obtain ⟨b, us, rfl, hb, h⟩ := okVs_c h
  obtain rfl := okVs_n h
  obtain ⟨f, l, rfl, hl, _, _⟩ := dec_msgs (n := 5) ha
  obtain ⟨x, rfl, hx⟩ := dec_u8 (n := 7) hb
  exact ⟨_, less_am hl hx⟩
#print axioms batchLess_said
end Go.Proofs.YtmjocdbdbofcbaaDoor
end
