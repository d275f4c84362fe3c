/-
  Part of the proof of a statement about the given program: an abstract machine over its code, the simulation, its functions' equations, what they compute.
-/
import Derived.Test.YtmjocdbdbofcbaaDoorMg13
import Derived.Test.YtmjocdbdbofcbaaDoorMg24
import Derived.Test.YtmjocdbdbofcbaaDoorMg25
import Derived.Test.YtmjocdbdbofcbaaDoorMg27
section
namespace Go.Proofs.YtmjocdbdbofcbaaDoor
open Go AM
theorem commitKept_said : Rows.CommitKeptCardSaid := RowCommitKept.card fun vs h => by
  obtain ⟨a, us, rfl, ha, h⟩ := okVs_c h
  obtain ⟨b, us, rfl, hb, h⟩ := okVs_c h
  obtain ⟨c, us, rfl, hc, h⟩ := okVs_c h
  obtain ⟨d, us, rfl, hd, h⟩ := okVs_c h
  obtain rfl := okVs_n h
  obtain ⟨w, rfl, w1, w2⟩ := dec_int K_3 und_3 ha
  obtain ⟨st, rfl, s1, s2⟩ := dec_int K_3 und_3 hb
  obtain ⟨f, l, rfl, hl, hm, hf⟩ := dec_vtxs (n := 5) hc
  obtain ⟨g, L, rfl, hL, hLm, hg⟩ := dec_outs (n := 4) hd
  exact ⟨_, kept_am (i64_rng w1 w2) (i64_rng s1 s2) hl hm hL hLm hg hf⟩
#print axioms commitKept_said
end Go.Proofs.YtmjocdbdbofcbaaDoor
end
