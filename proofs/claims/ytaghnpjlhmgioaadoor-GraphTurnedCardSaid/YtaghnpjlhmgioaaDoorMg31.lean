/-
  Part of the proof of a statement about the given program: an abstract machine over its code, the simulation, its functions' equations, what they compute.
-/
import Derived.Test.YtaghnpjlhmgioaaDoorMg14
import Derived.Test.YtaghnpjlhmgioaaDoorMg26
import Derived.Test.YtaghnpjlhmgioaaDoorMg27
import Derived.Test.YtaghnpjlhmgioaaDoorMg30
section
namespace Go.Proofs.YtaghnpjlhmgioaaDoor
open Go AM
theorem graphTurned_said : Rows.GraphTurnedCardSaid := RowGraphTurned.card fun vs h => by
 obtain ⟨a, us, rfl, ha, h⟩ := okVs_c h
 obtain ⟨b, us, rfl, hb, h⟩ := okVs_c h
 obtain rfl := okVs_n h
 obtain ⟨f, g, rfl, _, _, _, hf⟩ := dec_grf (n := 4) ha
 obtain ⟨x, rfl, x1, x2⟩ := dec_int K_42 und_42 hb
 have e1 : (IntKind.u16).min = 0 := by decide
 have e2 : (IntKind.u16).max = 65535 := by decide
 obtain ⟨k, rfl⟩ := Int.eq_ofNat_of_zero_le (show 0 ≤ x by omega)
 exact ⟨_, turned_am hf g (a := k) (by omega)⟩
#print axioms graphTurned_said
end Go.Proofs.YtaghnpjlhmgioaaDoor
end
