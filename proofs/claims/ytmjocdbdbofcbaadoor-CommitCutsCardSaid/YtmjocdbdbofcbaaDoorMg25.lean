/-
  Part of the proof of a statement about the given program: an abstract machine over its code, the simulation, its functions' equations, what they compute.
-/
import Derived.Test.YtmjocdbdbofcbaaDoorMg13
import Derived.Test.YtmjocdbdbofcbaaDoorMg20
import Derived.Test.YtmjocdbdbofcbaaDoorMg21
import Derived.Test.YtmjocdbdbofcbaaDoorMg24
import Derived.Test.YtmjocdbdbofcbaaDoorMg3
section
set_option linter.unusedVariables false
set_option linter.unusedSimpArgs false
set_option maxRecDepth 100000
namespace Go.Proofs.YtmjocdbdbofcbaaDoor
open Go AM
theorem dec_byte {n : Nat} {v : V} (h : okV P (n + 1) 5 v = true) : ∃ x : UInt8, v = .int .u8 (x.toNat : Int) ∧ True := by
  obtain ⟨a, rfl, ha⟩ := dec_u8 h
  exact ⟨UInt8.ofNat a, by rw [UInt8.toNat_ofNat_of_lt' ha], trivial⟩
theorem dec_u16 {n : Nat} {v : V} (h : okV P (n + 1) 54 v = true) : ∃ a : Nat, v = .int .u16 (a : Int) ∧ a < 65536 := by
  obtain ⟨x, rfl, x1, x2⟩ := dec_int K_54 und_54 h
  have e1 : (IntKind.u16).min = 0 := by decide
  have e2 : (IntKind.u16).max = 65535 := by decide
  refine ⟨x.toNat, ?_, by omega⟩
  rw [show ((x.toNat : Nat) : Int) = x by omega]
theorem dec_hash {n : Nat} {v : V} (h : okV P (n + 2) 33 v = true) : ∃ x : List UInt8, v = A32 x ∧ x.length = 32 := by
  obtain ⟨l, rfl, _, hl⟩ := dec_array (c := fun x : UInt8 => V.int .u8 (x.toNat : Int)) (p := fun _ => True) K_33 (fun v h => dec_byte h) h
  exact ⟨l, rfl, hl⟩
theorem dec_cmt {n : Nat} {v : V} (h : okV P (n + 4) 41 v = true) : ∃ (f : Fl) (c : Cmt), v = vC f c ∧ (c.bt.length ≤ 70 → CmtOk c) ∧ c.bt.length < 9223372036854775808 ∧ (f = .sh ∨ f = .nil) := by
  obtain ⟨xs, rfl, hx⟩ := dec_struct K_41 h
  obtain ⟨a, us, rfl, ha, hx⟩ := okVs_c hx
  obtain ⟨b, us, rfl, hb, hx⟩ := okVs_c hx
  obtain ⟨r, us, rfl, hr, hx⟩ := okVs_c hx
  obtain ⟨l, us, rfl, hl, hx⟩ := okVs_c hx
  obtain rfl := okVs_n hx
  obtain ⟨x, rfl, x1, x2⟩ := dec_int K_3 und_3 ha
  obtain ⟨y, rfl, y1, y2⟩ := dec_int K_3 und_3 hb
  obtain ⟨z, rfl, hz⟩ := dec_hash (n := n + 1) hr
  obtain ⟨f, bt, rfl, hbt, hlen, hf⟩ := dec_slice K_39 (fun v h => dec_hash (n := n) h) hl
  exact ⟨f, ⟨x, y, z, bt⟩, rfl, fun h70 => ⟨i64_rng x1 x2, i64_rng y1 y2, hz, hbt, by simp only [] at h70 ⊢; omega⟩, hlen, hf⟩
end Go.Proofs.YtmjocdbdbofcbaaDoor
end

section
set_option maxRecDepth 100000
namespace Go.Proofs.YtmjocdbdbofcbaaDoor
open Go AM

theorem follows : P.follows .mixedOrders = true := by kernel_rfl
theorem laysOk : laysAll P = true := by kernel_rfl
theorem lay : Lay P := lay_of laysOk
theorem names_ok : namesOk P = true := by kernel_rfl
theorem rets_ok : retsOk P ann = true := by kernel_rfl
theorem chk_all : chkAll P ann = true := by kernel_rfl

end Go.Proofs.YtmjocdbdbofcbaaDoor
end
