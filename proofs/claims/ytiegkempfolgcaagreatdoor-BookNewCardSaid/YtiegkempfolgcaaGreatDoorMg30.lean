/-
  Part of the proof of a statement about the given program: an abstract machine over its code, the simulation, its functions' equations, what they compute.
-/
import Derived.Test.YtiegkempfolgcaaGreatDoorMg13
import Derived.Test.YtiegkempfolgcaaGreatDoorMg25
import Derived.Test.YtiegkempfolgcaaGreatDoorMg26
import Derived.Test.YtiegkempfolgcaaGreatDoorMg29
section
namespace Go.Proofs.YtiegkempfolgcaaGreatDoor
open Go AM
theorem bookNew_said : Rows.BookNewCardSaid := RowBookNew.card fun vs h => by
 obtain ⟨a, us, rfl, ha, h⟩ := okVs_c h
 obtain ⟨b, us, rfl, hb, h⟩ := okVs_c h
 obtain ⟨c, us, rfl, hc, h⟩ := okVs_c h
 obtain rfl := okVs_n h
 obtain ⟨f, g, rfl, _, _, _, hf⟩ := dec_grf (n := 4) ha
 obtain ⟨j, rfl, _⟩ := dec_job (n := 6) hb
 obtain ⟨w, rfl, _⟩ := dec_int K_3 und_3 hc
 exact ⟨_, bookNew_am awake17 hf g j w⟩
#print axioms bookNew_said
end Go.Proofs.YtiegkempfolgcaaGreatDoor
end
