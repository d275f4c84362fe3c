/-
  Part of the proof of a statement about the given program: an abstract machine over its code, the simulation, its functions' equations, what they compute.
-/
import Derived.Test.YtaghnpjlhmgioaaDoorMg14
import Derived.Test.YtaghnpjlhmgioaaDoorMg21
import Derived.Test.YtaghnpjlhmgioaaDoorMg23
import Derived.Test.YtaghnpjlhmgioaaDoorMg26
import Derived.Test.YtaghnpjlhmgioaaDoorMg4
section
set_option linter.unusedVariables false
set_option linter.unusedSimpArgs false
set_option maxRecDepth 100000
namespace Go.Proofs.YtaghnpjlhmgioaaDoor
open Go AM
def E0Ok (e : E0) : Prop := I64 e.fr ∧ I64 e.to ∧ I64 e.w
theorem dec_e0 {n : Nat} {v : V} (h : okV P (n + 2) 45 v = true) : ∃ e, v = vE0 e ∧ E0Ok e := by
 obtain ⟨xs, rfl, hx⟩ := dec_struct K_45 h
 obtain ⟨a, us, rfl, ha, hx⟩ := okVs_c hx
 obtain ⟨b, us, rfl, hb, hx⟩ := okVs_c hx
 obtain ⟨c, us, rfl, hc, hx⟩ := okVs_c hx
 obtain rfl := okVs_n hx
 obtain ⟨x, rfl, x1, x2⟩ := dec_int K_3 und_3 ha
 obtain ⟨y, rfl, y1, y2⟩ := dec_int K_3 und_3 hb
 obtain ⟨z, rfl, z1, z2⟩ := dec_int K_2 und_2 hc
 exact ⟨⟨x, y, z⟩, rfl, i64_rng x1 x2, i64_rng y1 y2, i64_rng z1 z2⟩
theorem dec_grf {n : Nat} {v : V} (h : okV P (n + 4) 24 v = true) : ∃ (f : Fl) (g : Grf), v = vG f g ∧ I64 g.n ∧ (∀ e ∈ g.es, E0Ok e) ∧ g.es.length < 9223372036854775808 ∧ (f = .sh ∨ f = .nil) := by
 obtain ⟨xs, rfl, hx⟩ := dec_struct K_24 h
 obtain ⟨a, us, rfl, ha, hx⟩ := okVs_c hx
 obtain ⟨b, us, rfl, hb, hx⟩ := okVs_c hx
 obtain rfl := okVs_n hx
 obtain ⟨x, rfl, x1, x2⟩ := dec_int K_3 und_3 ha
 obtain ⟨f, l, rfl, hl, hm, hf⟩ := dec_slice K_22 (fun v h => dec_e0 (n := n) h) hb
 exact ⟨f, ⟨x, l⟩, rfl, i64_rng x1 x2, hl, hm, hf⟩
end Go.Proofs.YtaghnpjlhmgioaaDoor
end

section
set_option maxRecDepth 100000
namespace Go.Proofs.YtaghnpjlhmgioaaDoor
open Go AM
theorem follows : P.follows .mixedOrders = true := by kernel_rfl
theorem laysOk : laysAll P = true := by kernel_rfl
theorem lay : Lay P := lay_of laysOk
theorem names_ok : namesOk P = true := by kernel_rfl
theorem rets_ok : retsOk P ann = true := by kernel_rfl
theorem chk_all : chkAll P ann = true := by kernel_rfl
end Go.Proofs.YtaghnpjlhmgioaaDoor
end
