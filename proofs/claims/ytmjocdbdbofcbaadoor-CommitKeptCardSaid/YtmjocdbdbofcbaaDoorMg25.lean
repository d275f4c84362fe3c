/-
  Part of the proof of a statement about the given program: an abstract machine over its code, the simulation, its functions' equations, what they compute.
-/
import Derived.Test.YtmjocdbdbofcbaaDoorMg13
import Derived.Test.YtmjocdbdbofcbaaDoorMg20
import Derived.Test.YtmjocdbdbofcbaaDoorMg21
import Derived.Test.YtmjocdbdbofcbaaDoorMg24
import Derived.Test.YtmjocdbdbofcbaaDoorMg3
section
set_option linter.unusedVariables false
set_option linter.unusedSimpArgs false
set_option maxRecDepth 100000
namespace Go.Proofs.YtmjocdbdbofcbaaDoor
open Go AM
end Go.Proofs.YtmjocdbdbofcbaaDoor
end

section
set_option linter.unusedVariables false
set_option linter.unusedSimpArgs false
set_option maxRecDepth 100000
namespace Go.Proofs.YtmjocdbdbofcbaaDoor
open Go AM
theorem dec_vtx {n : Nat} {v : V} (h : okV P (n + 2) 119 v = true) : ∃ x : Vtx, v = vVx x ∧ VOk x := by
  obtain ⟨xs, rfl, hx⟩ := dec_struct K_119 h
  obtain ⟨a, us, rfl, ha, hx⟩ := okVs_c hx
  obtain ⟨b, us, rfl, hb, hx⟩ := okVs_c hx
  obtain ⟨c, us, rfl, hc, hx⟩ := okVs_c hx
  obtain ⟨d, us, rfl, hd, hx⟩ := okVs_c hx
  obtain ⟨e, us, rfl, he, hx⟩ := okVs_c hx
  obtain rfl := okVs_n hx
  obtain ⟨x, rfl, x1, x2⟩ := dec_int K_3 und_3 ha
  obtain ⟨y, rfl, y1, y2⟩ := dec_int K_2 und_2 hb
  obtain ⟨p, rfl⟩ := dec_bool K_4 und_4 hc
  obtain ⟨q, rfl⟩ := dec_bool K_4 und_4 hd
  obtain ⟨z, rfl, z1, z2⟩ := dec_int K_2 und_2 he
  exact ⟨⟨x, y, p, q, z⟩, rfl, i64_rng x1 x2, i64_rng y1 y2, i64_rng z1 z2⟩
theorem dec_vtxs {n : Nat} {v : V} (h : okV P (n + 3) 49 v = true) : ∃ (f : Fl) (l : List Vtx), v = .lst 119 f (l.map vVx) ∧ (∀ m ∈ l, VOk m) ∧ l.length < 9223372036854775808 ∧ (f = .sh ∨ f = .nil) :=
  dec_slice K_49 (fun v h => dec_vtx h) h
theorem dec_outs {n : Nat} {v : V} (h : okV P (n + 4) 50 v = true) : ∃ (f : Fl) (l : List (Fl × List Msg)), v = .lst 23 f (l.map bV) ∧ (∀ m ∈ l, BV m) ∧ l.length < 9223372036854775808 ∧ (f = .sh ∨ f = .nil) :=
  dec_slice K_50 (fun v h => by
    obtain ⟨f, l, e, hl, _, hf⟩ := dec_msgs (n := n) h
    exact ⟨(f, l), e, hl, hf⟩) h
end Go.Proofs.YtmjocdbdbofcbaaDoor
end

section
set_option maxRecDepth 100000
namespace Go.Proofs.YtmjocdbdbofcbaaDoor
open Go AM

theorem follows : P.follows .mixedOrders = true := by kernel_rfl
theorem laysOk : laysAll P = true := by kernel_rfl
theorem lay : Lay P := lay_of laysOk
theorem names_ok : namesOk P = true := by kernel_rfl
theorem rets_ok : retsOk P ann = true := by kernel_rfl
theorem chk_all : chkAll P ann = true := by kernel_rfl

end Go.Proofs.YtmjocdbdbofcbaaDoor
end
