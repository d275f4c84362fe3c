/-
  Part of the proof of a statement about the given program: an abstract machine over its code, the simulation, its functions' equations, what they compute.
-/
import Derived.Test.YtaghnpjlhmgioaaDoorMg14
import Derived.Test.YtaghnpjlhmgioaaDoorMg25
import Derived.Test.YtaghnpjlhmgioaaDoorMg6
section
set_option linter.unusedVariables false
set_option linter.unusedSimpArgs false
set_option maxRecDepth 100000
namespace Go.Proofs.YtaghnpjlhmgioaaDoor
open Go AM
theorem okVs_c {f : TypeId → V → Bool} {t : TypeId} {ts : List TypeId} {vs : List V} (h : okVs f (t :: ts) vs = true) : ∃ a us, vs = a :: us ∧ f t a = true ∧ okVs f ts us = true := by
 match vs, h with
 | a :: us, h => simp only [okVs, Bool.and_eq_true] at h; exact ⟨a, us, rfl, h.1, h.2⟩
theorem okVs_n {f : TypeId → V → Bool} {vs : List V} (h : okVs f [] vs = true) : vs = [] := by
 match vs, h with
 | [], _ => rfl
theorem dec_int {n : Nat} {t : TypeId} {k : IntKind} {v : V} (hk : K P t = .scal) (hu : P.underlying t = some (.int k)) (h : okV P (n + 1) t v = true) : ∃ x : Int, v = .int k x ∧ k.min ≤ x ∧ x ≤ k.max := by
 cases v <;> simp only [okV, hk, hu, Bool.false_eq_true, Bool.and_eq_true, decide_eq_true_eq, Lit.wf] at h
 obtain ⟨rfl, h1, h2⟩ := h
 exact ⟨_, rfl, h1, h2⟩
theorem i64_rng {x : Int} (h1 : (IntKind.i64).min ≤ x) (h2 : x ≤ (IntKind.i64).max) : I64 x := by
 have e1 : (IntKind.i64).min = -9223372036854775808 := by decide
 have e2 : (IntKind.i64).max = 9223372036854775807 := by decide
 simp only [I64]; omega
theorem dec_slice {α : Type} {n : Nat} {t e : TypeId} {c : α → V} {p : α → Prop} {v : V} (hk : K P t = .slice e) (hd : ∀ v, okV P n e v = true → ∃ a, v = c a ∧ p a) (h : okV P (n + 1) t v = true) :
 ∃ (f : Fl) (l : List α), v = .lst e f (l.map c) ∧ (∀ a ∈ l, p a) ∧ l.length < 9223372036854775808 ∧ (f = .sh ∨ f = .nil) := by
 have all : ∀ xs : List V, xs.all (okV P n e) = true → ∃ l : List α, xs = l.map c ∧ ∀ a ∈ l, p a := by
  intro xs
  induction xs with
  | nil => intro _; exact ⟨[], rfl, by simp⟩
  | cons x xs ih =>
    intro hx
    simp only [List.all_cons, Bool.and_eq_true] at hx
    obtain ⟨a, rfl, ha⟩ := hd x hx.1
    obtain ⟨l, rfl, hl⟩ := ih hx.2
    exact ⟨a :: l, rfl, fun b hb => by rcases List.mem_cons.1 hb with rfl | hb; · exact ha
                                       exact hl b hb⟩
 have hm : maxLen = 9223372036854775807 := by decide
 cases v with
 | lst e' f xs =>
   cases f with
   | sh =>
     simp only [okV, hk, Bool.and_eq_true, decide_eq_true_eq] at h
     obtain ⟨⟨rfl, hlen⟩, hx⟩ := h
     obtain ⟨l, rfl, hl⟩ := all xs hx
     rw [List.length_map] at hlen
     exact ⟨.sh, l, rfl, hl, by omega, Or.inl rfl⟩
   | nil =>
     cases xs with
     | nil =>
       simp only [okV, hk, decide_eq_true_eq] at h
       subst h
       exact ⟨.nil, [], rfl, by simp, by simp, Or.inr rfl⟩
     | cons x xs => simp [okV, hk] at h
   | own => simp [okV, hk] at h
   | non => simp [okV, hk] at h
   | lent => simp [okV, hk] at h
 | _ => simp [okV, hk] at h
theorem dec_struct {n : Nat} {t u : TypeId} {fs : List TypeId} {v : V} (hk : K P t = .struct u fs) (h : okV P (n + 1) t v = true) : ∃ xs, v = .agg u xs ∧ okVs (okV P n) fs xs = true := by
 cases v <;> simp only [okV, hk, Bool.false_eq_true, Bool.and_eq_true, decide_eq_true_eq] at h
 obtain ⟨rfl, hx⟩ := h
 exact ⟨_, rfl, hx⟩
end Go.Proofs.YtaghnpjlhmgioaaDoor
end
