/-
  Part of the proof of a statement about the given program: an abstract machine over its code, the simulation, its functions' equations, what they compute.
-/
import Derived.Test.YtiegkempfolgcaaGreatDoorMg13
import Derived.Test.YtiegkempfolgcaaGreatDoorMg25
import Derived.Test.YtiegkempfolgcaaGreatDoorMg26
import Derived.Test.YtiegkempfolgcaaGreatDoorMg29
section
namespace Go.Proofs.YtiegkempfolgcaaGreatDoor
open Go AM
theorem dec_by {n : Nat} {v : V} (h : okV P (n + 1) 5 v = true) : ∃ x : UInt8, v = .int .u8 (x.toNat : Int) ∧ True := by
 obtain ⟨a, rfl, ha⟩ := dec_u8 h
 exact ⟨UInt8.ofNat a, by rw [UInt8.toNat_ofNat_of_lt' ha], trivial⟩
theorem bookOnce_said : Rows.BookOnceCardSaid := RowBookOnce.card fun vs h => by
 obtain ⟨a, us, rfl, ha, h⟩ := okVs_c h
 obtain ⟨b, us, rfl, hb, h⟩ := okVs_c h
 obtain ⟨c, us, rfl, hc, h⟩ := okVs_c h
 obtain ⟨d, us, rfl, hd, h⟩ := okVs_c h
 obtain rfl := okVs_n h
 obtain ⟨f, g, rfl, _, _, _, hf⟩ := dec_grf (n := 4) ha
 obtain ⟨j, rfl, _⟩ := dec_job (n := 6) hb
 obtain ⟨w, rfl, _⟩ := dec_int K_3 und_3 hc
 obtain ⟨fl, l, rfl, _, _, hfl⟩ := dec_slice K_68 (fun v h => dec_by h) hd
 exact ⟨_, bookOnce_am awake17 hf hfl g j w l⟩
#print axioms bookOnce_said
end Go.Proofs.YtiegkempfolgcaaGreatDoor
end
