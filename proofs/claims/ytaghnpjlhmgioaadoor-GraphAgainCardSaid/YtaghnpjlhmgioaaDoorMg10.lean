/-
  Part of the proof of a statement about the given program: an abstract machine over its code, the simulation, its functions' equations, what they compute.
-/
import Derived.Test.YtaghnpjlhmgioaaDoorMg8
import Derived.Test.YtaghnpjlhmgioaaDoorMg9
section
set_option linter.unusedVariables false
set_option linter.unusedSimpArgs false
set_option maxRecDepth 100000
namespace Go.Proofs.YtaghnpjlhmgioaaDoor
open Go AM
theorem fin_bool (n : Nat) (h : List V) (b : Bool) : finT n h (.bool b) = some (.bool b, h.take n) := rfl
theorem fin_int (n : Nat) (h : List V) (k : IntKind) (b : Int) : finT n h (.int k b) = some (.int k b, h.take n) := rfl
def B32 (l : List Nat) : Prop := ∀ x ∈ l, x < 4294967296
theorem fdiv_pow (a n : Nat) : Int.fdiv (a : Int) (2 ^ n) = ((a / 2 ^ n : Nat) : Int) := by
 have e : (2 : Int) ^ n = ((2 ^ n : Nat) : Int) := by push_cast; rfl
 rw [e, Int.fdiv_eq_ediv_of_nonneg _ (Int.natCast_nonneg _)]; rfl
theorem B32.set {l : List Nat} (h : B32 l) (i : Nat) {x : Nat} (hx : x < 4294967296) : B32 (l.set i x) := by
 intro y hy
 rcases List.mem_or_eq_of_mem_set hy with hy | rfl
 · exact h y hy
 · exact hx
theorem bstep {A B : Type} {o : Option A} {x : A} (h : o = some x) (K : A → Option B) : o.bind K = K x := by rw [h]; rfl
theorem lssT {B : Type} {k : IntKind} {a b : Int} (h : a < b) (K : V → Option B) : (bin .lss (.int k a) (.int k b)).bind K = K (.bool true) := by
 rw [b_lss, Option.bind_some, decide_eq_true h]
theorem lssF {B : Type} {k : IntKind} {a b : Int} (h : ¬ a < b) (K : V → Option B) : (bin .lss (.int k a) (.int k b)).bind K = K (.bool false) := by
 rw [b_lss, Option.bind_some, decide_eq_false h]
theorem ite_tt {B : Type} (a b : Option B) : V.ite (.bool true) a b = a := rfl
theorem ite_ff {B : Type} (a b : Option B) : V.ite (.bool false) a b = b := rfl
theorem subT {B : Type} {a b : Nat} (h : b ≤ a) (ha : a < 2 ^ 62) (K : V → Option B) : (bin .sub (.int .i64 (a : Int)) (.int .i64 (b : Int))).bind K = K (.int .i64 ((a - b : Nat) : Int)) := by
 rw [b_sub, show (a : Int) - (b : Int) = ((a - b : Nat) : Int) by omega, wrap_i64 (by omega) (by omega)]; rfl
theorem addT {B : Type} {a b : Nat} (h : a + b < 2 ^ 62) (K : V → Option B) : (bin .add (.int .i64 (a : Int)) (.int .i64 (b : Int))).bind K = K (.int .i64 ((a + b : Nat) : Int)) := by
 rw [b_add, show (a : Int) + (b : Int) = ((a + b : Nat) : Int) by omega, wrap_i64 (by omega) (by omega)]; rfl
theorem mulT {B : Type} {a b : Nat} (h : a * b < 2 ^ 62) (K : V → Option B) : (bin .mul (.int .i64 (a : Int)) (.int .i64 (b : Int))).bind K = K (.int .i64 ((a * b : Nat) : Int)) := by
 rw [b_mul, ← Int.natCast_mul, wrap_i64 (by omega) (by omega)]; rfl
theorem usubT {B : Type} {a b : Nat} (h : b ≤ a) (ha : a < 18446744073709551616) (K : V → Option B) : (bin .sub (.int .u64 (a : Int)) (.int .u64 (b : Int))).bind K = K (.int .u64 ((a - b : Nat) : Int)) := by
 rw [b_sub, show (a : Int) - (b : Int) = ((a - b : Nat) : Int) by omega, wrap_u64 (by omega) (by omega)]; rfl
theorem eqlT {B : Type} {k : IntKind} {a b : Int} (h : a = b) (K : V → Option B) : (bin .eql (.int k a) (.int k b)).bind K = K (.bool true) := by
 rw [b_eql, Option.bind_some, decide_eq_true h]
theorem eqlF {B : Type} {k : IntKind} {a b : Int} (h : ¬ a = b) (K : V → Option B) : (bin .eql (.int k a) (.int k b)).bind K = K (.bool false) := by
 rw [b_eql, Option.bind_some, decide_eq_false h]
theorem geqT {B : Type} {k : IntKind} {a b : Int} (h : b ≤ a) (K : V → Option B) : (bin .geq (.int k a) (.int k b)).bind K = K (.bool true) := by
 rw [b_geq, Option.bind_some, decide_eq_true h]
theorem geqF {B : Type} {k : IntKind} {a b : Int} (h : ¬ b ≤ a) (K : V → Option B) : (bin .geq (.int k a) (.int k b)).bind K = K (.bool false) := by
 rw [b_geq, Option.bind_some, decide_eq_false h]
theorem cv8 {B : Type} {h : List V} {x : Nat} (K : V → Option B) : (conv P h 92 5 (.int .u64 (x : Int))).bind K = K (.int .u8 ((x % 256 : Nat) : Int)) := by
 refine (bstep (conv_int und_5 ..) _).trans ?_
 rw [wrap_u8_mod]
theorem ret0 {n : Nat} {h : List V} : (if (List.all [] V.okE) = true then finT n h (V.tup []) else none) = some (.tup [], h.take n) := rfl
end Go.Proofs.YtaghnpjlhmgioaaDoor
end

section
set_option linter.unusedVariables false
namespace Go.Proofs.YtaghnpjlhmgioaaDoor
open Go AM
theorem br_d {B : Type} {p : Prop} [Decidable p] {a b : Option B} {r : Option B} (h : p → a = r) (h2 : ¬ p → b = r) : V.ite (.bool (decide p)) a b = r := by
 by_cases hp : p
 · rw [decide_eq_true hp]; exact h hp
 · rw [decide_eq_false hp]; exact h2 hp
theorem br_b {B : Type} {p : Bool} {a b : Option B} {r : Option B} (h : p = true → a = r) (h2 : p = false → b = r) : V.ite (.bool p) a b = r := by
 cases p
 · exact h2 rfl
 · exact h rfl
@[go_sem] theorem capOk_ref (id : Nat) (p : List Nat) (t : TypeId) : V.capOk (.ref id p t) = true := (rfl)
@[go_sem] theorem ite_true' {B : Type} (a b : B) : (if (true : Bool) = true then a else b) = a := (rfl)
theorem callV_np2 {R : Type} {f : FuncId} {cs vs h : List V} (k : V → List V → Option R) (he : ann.ext f = false) (hp : ann.pure f = false) {r : V} {h' : List V} (e : Cl f (normL (vs ++ cs)) h = some (r, h')) (hs : (ann.seq f).1 = 0 := by kernel_rfl) : callV P ann W (.clo f cs) vs h k = k r h' := by
 rw [callV_np k he hp hs, e]; rfl
end Go.Proofs.YtaghnpjlhmgioaaDoor
end
