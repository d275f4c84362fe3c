/-
  Part of the proof of a statement about the given program: an abstract machine over its code, the simulation, its functions' equations, what they compute.
-/
import Derived.Test.YtmjocdbdbofcbaaDoorMg13
import Derived.Test.YtmjocdbdbofcbaaDoorMg24
import Derived.Test.YtmjocdbdbofcbaaDoorMg25
import Derived.Test.YtmjocdbdbofcbaaDoorMg27
section
namespace Go.Proofs.YtmjocdbdbofcbaaDoor
open Go AM
theorem commitCuts_said : Rows.CommitCutsCardSaid := RowCommitCuts.card fun vs h => by
  obtain ⟨a, us, rfl, ha, h⟩ := okVs_c h
  obtain ⟨b, us, rfl, hb, h⟩ := okVs_c h
  obtain ⟨x, us, rfl, hx, h⟩ := okVs_c h
  obtain rfl := okVs_n h
  obtain ⟨f, c, rfl, hc, hl, hf⟩ := dec_cmt (n := 4) ha
  obtain ⟨k, rfl, hk⟩ := dec_u16 (n := 7) hb
  obtain ⟨y, rfl, _⟩ := dec_byte (n := 7) hx
  exact ⟨_, ccuts_am hf hc hl k hk y⟩
#print axioms commitCuts_said
end Go.Proofs.YtmjocdbdbofcbaaDoor
end
