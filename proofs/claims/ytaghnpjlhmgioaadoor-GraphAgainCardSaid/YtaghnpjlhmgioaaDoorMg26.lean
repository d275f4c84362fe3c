/-
  Part of the proof of a statement about the given program: an abstract machine over its code, the simulation, its functions' equations, what they compute.
-/
import Derived.Test.YtaghnpjlhmgioaaDoorMg14
import Derived.Test.YtaghnpjlhmgioaaDoorMg21
import Derived.Test.YtaghnpjlhmgioaaDoorMg23
import Derived.Test.YtaghnpjlhmgioaaDoorMg25
import Derived.Test.YtaghnpjlhmgioaaDoorMg4
import Derived.Test.YtaghnpjlhmgioaaDoorMg6
section
set_option linter.unusedVariables false
set_option linter.unusedSimpArgs false
set_option maxRecDepth 100000
namespace Go.Proofs.YtaghnpjlhmgioaaDoor
open Go AM
theorem okVs_c {f : TypeId → V → Bool} {t : TypeId} {ts : List TypeId} {vs : List V} (h : okVs f (t :: ts) vs = true) : ∃ a us, vs = a :: us ∧ f t a = true ∧ okVs f ts us = true := by
 match vs, h with
 | a :: us, h => simp only [okVs, Bool.and_eq_true] at h; exact ⟨a, us, rfl, h.1, h.2⟩
theorem okVs_n {f : TypeId → V → Bool} {vs : List V} (h : okVs f [] vs = true) : vs = [] := by
 match vs, h with
 | [], _ => rfl
theorem dec_str {n : Nat} {t : TypeId} {v : V} (hk : K P t = .scal) (hu : P.underlying t = some .string) (h : okV P (n + 1) t v = true) : ∃ s : List UInt8, v = .str s ∧ s.length < 9223372036854775808 := by
 cases v <;> simp only [okV, hk, hu, Bool.false_eq_true, decide_eq_true_eq] at h
 rename_i s
 have : maxLen = 9223372036854775807 := by decide
 exact ⟨s, rfl, by omega⟩
end Go.Proofs.YtaghnpjlhmgioaaDoor
end

section
set_option maxRecDepth 100000
namespace Go.Proofs.YtaghnpjlhmgioaaDoor
open Go AM
theorem follows : P.follows .mixedOrders = true := by kernel_rfl
theorem laysOk : laysAll P = true := by kernel_rfl
theorem lay : Lay P := lay_of laysOk
theorem names_ok : namesOk P = true := by kernel_rfl
theorem rets_ok : retsOk P ann = true := by kernel_rfl
theorem chk_all : chkAll P ann = true := by kernel_rfl
end Go.Proofs.YtaghnpjlhmgioaaDoor
end
