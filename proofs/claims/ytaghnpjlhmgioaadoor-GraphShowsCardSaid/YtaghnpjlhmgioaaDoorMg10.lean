/-
  Part of the proof of a statement about the given program: an abstract machine over its code, the simulation, its functions' equations, what they compute.
-/
import Derived.Test.YtaghnpjlhmgioaaDoorMg4
import Derived.Test.YtaghnpjlhmgioaaDoorMg5
import Derived.Test.YtaghnpjlhmgioaaDoorMg8
import Derived.Test.YtaghnpjlhmgioaaDoorMg9
section
set_option linter.unusedVariables false
set_option linter.unusedSimpArgs false
set_option maxRecDepth 100000
namespace Go.Proofs.YtaghnpjlhmgioaaDoor
open Go AM
theorem fin_bool (n : Nat) (h : List V) (b : Bool) : finT n h (.bool b) = some (.bool b, h.take n) := rfl
theorem fin_int (n : Nat) (h : List V) (k : IntKind) (b : Int) : finT n h (.int k b) = some (.int k b, h.take n) := rfl
def B32 (l : List Nat) : Prop := ∀ x ∈ l, x < 4294967296
theorem fdiv_pow (a n : Nat) : Int.fdiv (a : Int) (2 ^ n) = ((a / 2 ^ n : Nat) : Int) := by
 have e : (2 : Int) ^ n = ((2 ^ n : Nat) : Int) := by push_cast; rfl
 rw [e, Int.fdiv_eq_ediv_of_nonneg _ (Int.natCast_nonneg _)]; rfl
theorem B32.set {l : List Nat} (h : B32 l) (i : Nat) {x : Nat} (hx : x < 4294967296) : B32 (l.set i x) := by
 intro y hy
 rcases List.mem_or_eq_of_mem_set hy with hy | rfl
 · exact h y hy
 · exact hx
theorem bstep {A B : Type} {o : Option A} {x : A} (h : o = some x) (K : A → Option B) : o.bind K = K x := by rw [h]; rfl
theorem lssT {B : Type} {k : IntKind} {a b : Int} (h : a < b) (K : V → Option B) : (bin .lss (.int k a) (.int k b)).bind K = K (.bool true) := by
 rw [b_lss, Option.bind_some, decide_eq_true h]
theorem lssF {B : Type} {k : IntKind} {a b : Int} (h : ¬ a < b) (K : V → Option B) : (bin .lss (.int k a) (.int k b)).bind K = K (.bool false) := by
 rw [b_lss, Option.bind_some, decide_eq_false h]
theorem ite_tt {B : Type} (a b : Option B) : V.ite (.bool true) a b = a := rfl
theorem ite_ff {B : Type} (a b : Option B) : V.ite (.bool false) a b = b := rfl
theorem subT {B : Type} {a b : Nat} (h : b ≤ a) (ha : a < 2 ^ 62) (K : V → Option B) : (bin .sub (.int .i64 (a : Int)) (.int .i64 (b : Int))).bind K = K (.int .i64 ((a - b : Nat) : Int)) := by
 rw [b_sub, show (a : Int) - (b : Int) = ((a - b : Nat) : Int) by omega, wrap_i64 (by omega) (by omega)]; rfl
theorem addT {B : Type} {a b : Nat} (h : a + b < 2 ^ 62) (K : V → Option B) : (bin .add (.int .i64 (a : Int)) (.int .i64 (b : Int))).bind K = K (.int .i64 ((a + b : Nat) : Int)) := by
 rw [b_add, show (a : Int) + (b : Int) = ((a + b : Nat) : Int) by omega, wrap_i64 (by omega) (by omega)]; rfl
theorem mulT {B : Type} {a b : Nat} (h : a * b < 2 ^ 62) (K : V → Option B) : (bin .mul (.int .i64 (a : Int)) (.int .i64 (b : Int))).bind K = K (.int .i64 ((a * b : Nat) : Int)) := by
 rw [b_mul, ← Int.natCast_mul, wrap_i64 (by omega) (by omega)]; rfl
theorem usubT {B : Type} {a b : Nat} (h : b ≤ a) (ha : a < 18446744073709551616) (K : V → Option B) : (bin .sub (.int .u64 (a : Int)) (.int .u64 (b : Int))).bind K = K (.int .u64 ((a - b : Nat) : Int)) := by
 rw [b_sub, show (a : Int) - (b : Int) = ((a - b : Nat) : Int) by omega, wrap_u64 (by omega) (by omega)]; rfl
theorem eqlT {B : Type} {k : IntKind} {a b : Int} (h : a = b) (K : V → Option B) : (bin .eql (.int k a) (.int k b)).bind K = K (.bool true) := by
 rw [b_eql, Option.bind_some, decide_eq_true h]
theorem eqlF {B : Type} {k : IntKind} {a b : Int} (h : ¬ a = b) (K : V → Option B) : (bin .eql (.int k a) (.int k b)).bind K = K (.bool false) := by
 rw [b_eql, Option.bind_some, decide_eq_false h]
theorem geqT {B : Type} {k : IntKind} {a b : Int} (h : b ≤ a) (K : V → Option B) : (bin .geq (.int k a) (.int k b)).bind K = K (.bool true) := by
 rw [b_geq, Option.bind_some, decide_eq_true h]
theorem geqF {B : Type} {k : IntKind} {a b : Int} (h : ¬ b ≤ a) (K : V → Option B) : (bin .geq (.int k a) (.int k b)).bind K = K (.bool false) := by
 rw [b_geq, Option.bind_some, decide_eq_false h]
theorem cv8 {B : Type} {h : List V} {x : Nat} (K : V → Option B) : (conv P h 92 5 (.int .u64 (x : Int))).bind K = K (.int .u8 ((x % 256 : Nat) : Int)) := by
 refine (bstep (conv_int und_5 ..) _).trans ?_
 rw [wrap_u8_mod]
theorem ret0 {n : Nat} {h : List V} : (if (List.all [] V.okE) = true then finT n h (V.tup []) else none) = some (.tup [], h.take n) := rfl
end Go.Proofs.YtaghnpjlhmgioaaDoor
end

section
set_option linter.unusedVariables false
set_option linter.unusedSimpArgs false
set_option linter.unusedSectionVars false
set_option maxRecDepth 100000
namespace Go.Proofs.YtaghnpjlhmgioaaDoor
open Go AM
def dg (k : Nat) : UInt8 := UInt8.ofNat (48 + k)
def decF : Nat → Nat → List UInt8
 | 0, _ => []
 | f + 1, n => if n < 10 then [dg n] else decF f (n / 10) ++ [dg (n % 10)]
def decB (n : Nat) : List UInt8 := decF 8 n
theorem small_chk : ((List.range 100).all fun i => match callN P ann 12 85 [.int .i64 (i : Int)] [] with | some (.str s, []) => s == decB i | _ => false) = true := by kernel_rfl
theorem small_am {i : Nat} (h : i < 100) : Cl 85 [.int .i64 (i : Int)] [] = some (.str (decB i), []) := by
 have := List.all_eq_true.1 small_chk i (List.mem_range.2 h)
 split at this
 · rename_i s hs
   have e : s = decB i := by simpa using this
   rw [← e]
   exact callW_run.2 ⟨12, hs⟩
 · cases this
def lenC (b : Nat) : Nat := if b < 1 then 0 else if b < 2 then 1 else if b < 4 then 2 else if b < 8 then 3 else if b < 16 then 4 else if b < 32 then 5 else if b < 64 then 6 else if b < 128 then 7 else 8
theorem len_tab : ∃ T : List UInt8, (∀ t0 t2 k, f66_r10 t0 t2 k = (conv P [] 92 5 t0).bind fun t21 => (indexV P 9 (.str T) t21).bind fun t22 => (conv P [] 5 3 t22).bind fun t23 => (bin .add t2 t23).bind fun t24 => k t24) ∧
 ((List.range 256).all fun b => match indexV P 9 (.str T) (.int .u8 (b : Int)) with | some (.int .u8 x) => x == (lenC b : Int) | _ => false) = true := ⟨_, fun _ _ _ => rfl, by kernel_rfl⟩
theorem lenC_le (b : Nat) : lenC b ≤ 8 := by
 simp only [lenC]
 (repeat' split) <;> omega
theorem len_r10 {b : Nat} (hb : b < 256) {a : Nat} (ha : a ≤ 16) (k : V → Rv) : f66_r10 (.int .u64 (b : Int)) (.int .i64 (a : Int)) k = k (.int .i64 ((a + lenC b : Nat) : Int)) := by
 obtain ⟨T, h1, h2⟩ := len_tab
 have := List.all_eq_true.1 h2 b (List.mem_range.2 hb)
 have hl := lenC_le b
 rw [h1]
 split at this
 · rename_i x hx
   have e : x = (lenC b : Int) := by simpa using this
   subst e
   refine (bstep (conv_int und_5 ..) _).trans ?_
   rw [wrap_u8 (by omega) (by omega)]
   refine (bstep hx _).trans ?_
   refine (bstep (conv_int und_3 ..) _).trans ?_
   rw [wrap_i64 (by omega) (by omega)]
   refine (bstep (show bin .add (.int .i64 (a : Int)) (.int .i64 (lenC b : Int)) = some (.int .i64 ((a + lenC b : Nat) : Int)) by rw [b_add, wrap_i64 (by omega) (by omega)]; rfl) _).trans ?_
   rfl
 · cases this
theorem shr64 {a : Nat} (h : a < 18446744073709551616) (k : Nat) (hk : k ≤ 64) : bin .shr (.int .u64 (a : Int)) (.int .u64 (k : Int)) = some (.int .u64 ((a / 2 ^ k : Nat) : Int)) := by
 have e : (min (k : Int).toNat IntKind.u64.bits) = k := by simp only [IntKind.bits, Int.toNat_natCast]; omega
 have e2 : ((2 : Int) ^ k) = ((2 ^ k : Nat) : Int) := by simp
 rw [b_shr _ _ _ _ (by omega), e, e2, Int.fdiv_eq_ediv_of_nonneg _ (Int.natCast_nonneg _), ← Int.natCast_ediv]
theorem len_am {n : Nat} (h : n < 2097152) : Cl 66 [.int .u64 (n : Int)] [] = some (.int .i64 ((if n < 256 then lenC n else if n < 65536 then 8 + lenC (n / 256) else 16 + lenC (n / 65536) : Nat) : Int), []) := by
 rw [f66_eq]
 simp only [f66_r0, f66_r1, f66_r2, f66_r3, f66_r4, f66_r5, f66_r6, f66_r7, f66_r8, f66_r9]
 have s8 : bin .shr (.int .u64 (n : Int)) (.int .u64 8) = some (.int .u64 ((n / 256 : Nat) : Int)) := shr64 (a := n) (by omega) 8 (by omega)
 have s16 : bin .shr (.int .u64 (n : Int)) (.int .u64 16) = some (.int .u64 ((n / 65536 : Nat) : Int)) := shr64 (a := n) (by omega) 16 (by omega)
 have hlt : n / 65536 < 256 := by omega
 have z0 : (.int .i64 0 : V) = .int .i64 ((0 : Nat) : Int) := rfl
 by_cases h1 : n < 256
 · rw [if_pos h1]
   (repeat' with_reducible first | refine (ite_T _ _).trans ?_ | refine (ite_F _ _).trans ?_ | refine (jn_eq _ _).trans ?_ | refine (bstep (by first | rfl | (simp (disch := first | assumption | omega | (with_reducible rfl) | (simp only [go_sem]; done) | (simp only [go_sem]; omega) | fail) only [↓reduceIte, ↓jn_eq, Nat.reduceAdd, go_sem, Bool.not_true, Bool.not_false]; rfl)) _).trans ?_ | refine (if_pos (by first | rfl | (simp (disch := first | assumption | omega | (with_reducible rfl) | (simp only [go_sem]; done) | (simp only [go_sem]; omega) | fail) only [↓reduceIte, ↓jn_eq, Nat.reduceAdd, go_sem, Bool.not_true, Bool.not_false]; done))).trans ?_ | refine (ite_dec (by first | assumption | omega | (simp (disch := first | assumption | omega | (with_reducible rfl) | (simp only [go_sem]; done) | (simp only [go_sem]; omega) | fail) only [↓reduceIte, ↓jn_eq, Nat.reduceAdd, go_sem, Bool.not_true, Bool.not_false]; done) | (simp (disch := first | assumption | omega | (with_reducible rfl) | (simp only [go_sem]; done) | (simp only [go_sem]; omega) | fail) only [↓reduceIte, ↓jn_eq, Nat.reduceAdd, go_sem, Bool.not_true, Bool.not_false]; omega)) _ _).trans ?_ | refine (ite_ndec (by first | assumption | omega | (simp (disch := first | assumption | omega | (with_reducible rfl) | (simp only [go_sem]; done) | (simp only [go_sem]; omega) | fail) only [↓reduceIte, ↓jn_eq, Nat.reduceAdd, go_sem, Bool.not_true, Bool.not_false]; done) | (simp (disch := first | assumption | omega | (with_reducible rfl) | (simp only [go_sem]; done) | (simp only [go_sem]; omega) | fail) only [↓reduceIte, ↓jn_eq, Nat.reduceAdd, go_sem, Bool.not_true, Bool.not_false]; omega)) _ _).trans ?_ | fail)
   rw [z0]
   refine (len_r10 h1 (by omega) _).trans ?_
   rw [Nat.zero_add]; rfl
 · by_cases h2 : n < 65536
   · rw [if_neg h1, if_pos h2]
     (repeat' with_reducible first | refine (ite_T _ _).trans ?_ | refine (ite_F _ _).trans ?_ | refine (jn_eq _ _).trans ?_ | refine (bstep (by first | rfl | (simp (disch := first | assumption | omega | (with_reducible rfl) | (simp only [go_sem]; done) | (simp only [go_sem]; omega) | fail) only [↓reduceIte, ↓jn_eq, Nat.reduceAdd, go_sem, Bool.not_true, Bool.not_false, s8]; rfl)) _).trans ?_ | refine (if_pos (by first | rfl | (simp (disch := first | assumption | omega | (with_reducible rfl) | (simp only [go_sem]; done) | (simp only [go_sem]; omega) | fail) only [↓reduceIte, ↓jn_eq, Nat.reduceAdd, go_sem, Bool.not_true, Bool.not_false, s8]; done))).trans ?_ | refine (ite_dec (by first | assumption | omega | (simp (disch := first | assumption | omega | (with_reducible rfl) | (simp only [go_sem]; done) | (simp only [go_sem]; omega) | fail) only [↓reduceIte, ↓jn_eq, Nat.reduceAdd, go_sem, Bool.not_true, Bool.not_false, s8]; done) | (simp (disch := first | assumption | omega | (with_reducible rfl) | (simp only [go_sem]; done) | (simp only [go_sem]; omega) | fail) only [↓reduceIte, ↓jn_eq, Nat.reduceAdd, go_sem, Bool.not_true, Bool.not_false, s8]; omega)) _ _).trans ?_ | refine (ite_ndec (by first | assumption | omega | (simp (disch := first | assumption | omega | (with_reducible rfl) | (simp only [go_sem]; done) | (simp only [go_sem]; omega) | fail) only [↓reduceIte, ↓jn_eq, Nat.reduceAdd, go_sem, Bool.not_true, Bool.not_false, s8]; done) | (simp (disch := first | assumption | omega | (with_reducible rfl) | (simp only [go_sem]; done) | (simp only [go_sem]; omega) | fail) only [↓reduceIte, ↓jn_eq, Nat.reduceAdd, go_sem, Bool.not_true, Bool.not_false, s8]; omega)) _ _).trans ?_ | fail)
     exact (len_r10 (a := 8) (by omega) (by omega) _).trans rfl
   · rw [if_neg h1, if_neg h2]
     (repeat' with_reducible first | refine (ite_T _ _).trans ?_ | refine (ite_F _ _).trans ?_ | refine (jn_eq _ _).trans ?_ | refine (bstep (by first | rfl | (simp (disch := first | assumption | omega | (with_reducible rfl) | (simp only [go_sem]; done) | (simp only [go_sem]; omega) | fail) only [↓reduceIte, ↓jn_eq, Nat.reduceAdd, go_sem, Bool.not_true, Bool.not_false, s16]; rfl)) _).trans ?_ | refine (if_pos (by first | rfl | (simp (disch := first | assumption | omega | (with_reducible rfl) | (simp only [go_sem]; done) | (simp only [go_sem]; omega) | fail) only [↓reduceIte, ↓jn_eq, Nat.reduceAdd, go_sem, Bool.not_true, Bool.not_false, s16]; done))).trans ?_ | refine (ite_dec (by first | assumption | omega | (simp (disch := first | assumption | omega | (with_reducible rfl) | (simp only [go_sem]; done) | (simp only [go_sem]; omega) | fail) only [↓reduceIte, ↓jn_eq, Nat.reduceAdd, go_sem, Bool.not_true, Bool.not_false, s16]; done) | (simp (disch := first | assumption | omega | (with_reducible rfl) | (simp only [go_sem]; done) | (simp only [go_sem]; omega) | fail) only [↓reduceIte, ↓jn_eq, Nat.reduceAdd, go_sem, Bool.not_true, Bool.not_false, s16]; omega)) _ _).trans ?_ | refine (ite_ndec (by first | assumption | omega | (simp (disch := first | assumption | omega | (with_reducible rfl) | (simp only [go_sem]; done) | (simp only [go_sem]; omega) | fail) only [↓reduceIte, ↓jn_eq, Nat.reduceAdd, go_sem, Bool.not_true, Bool.not_false, s16]; done) | (simp (disch := first | assumption | omega | (with_reducible rfl) | (simp only [go_sem]; done) | (simp only [go_sem]; omega) | fail) only [↓reduceIte, ↓jn_eq, Nat.reduceAdd, go_sem, Bool.not_true, Bool.not_false, s16]; omega)) _ _).trans ?_ | fail)
     exact (len_r10 (a := 16) (by omega) (by omega) _).trans rfl
end Go.Proofs.YtaghnpjlhmgioaaDoor
end

section
set_option linter.unusedVariables false
set_option linter.unusedSimpArgs false
set_option linter.unusedSectionVars false
set_option maxRecDepth 100000
namespace Go.Proofs.YtaghnpjlhmgioaaDoor
open Go AM
def ndC (n : Nat) : Nat := if n < 1000 then 3 else if n < 10000 then 4 else if n < 100000 then 5 else if n < 1000000 then 6 else 7
theorem log_chk : ((List.range 22).all fun i => match callN P ann 12 98 [.int .i64 (i : Int)] [] with | some (.int .i64 x, []) => x == ((i * 78913 / 262144 : Nat) : Int) | _ => false) = true := by kernel_rfl
theorem log_am {i : Nat} (h : i < 22) : Cl 98 [.int .i64 (i : Int)] [] = some (.int .i64 ((i * 78913 / 262144 : Nat) : Int), []) := by
 have := List.all_eq_true.1 log_chk i (List.mem_range.2 h)
 split at this
 · rename_i x hx
   have e : x = ((i * 78913 / 262144 : Nat) : Int) := by simpa using this
   rw [← e]
   exact callW_run.2 ⟨12, hx⟩
 · cases this
theorem b2_am (b : Bool) : Cl 99 [.bool b] [] = some (.int .i64 (if b = true then 1 else 0), []) := by
 cases b <;> exact callW_run.2 ⟨12, by kernel_rfl⟩
theorem pow_at : (ixA 128 128 20 92 (V.rop 128 glob3) (.int .i64 2) = some (.rop 92 (.int .u64 100))) ∧ (ixA 128 128 20 92 (V.rop 128 glob3) (.int .i64 3) = some (.rop 92 (.int .u64 1000))) ∧ (ixA 128 128 20 92 (V.rop 128 glob3) (.int .i64 4) = some (.rop 92 (.int .u64 10000))) ∧
 (ixA 128 128 20 92 (V.rop 128 glob3) (.int .i64 5) = some (.rop 92 (.int .u64 100000))) ∧ (ixA 128 128 20 92 (V.rop 128 glob3) (.int .i64 6) = some (.rop 92 (.int .u64 1000000))) := ⟨by kernel_rfl, by kernel_rfl, by kernel_rfl, by kernel_rfl, by kernel_rfl⟩
theorem nd_step {n L l p : Nat} (hL : Cl 66 [.int .u64 (n : Int)] [] = some (.int .i64 (L : Int), [])) (h22 : L < 22) (hl : L * 78913 / 262144 = l) (hp : ixA 128 128 20 92 (V.rop 128 glob3) (.int .i64 (l : Int)) = some (.rop 92 (.int .u64 (p : Int)))) (h6 : l ≤ 6) :
 Cl 86 [.int .u64 (n : Int)] [] = some (.int .i64 ((l + if p ≤ n then 1 else 0 : Nat) : Int), []) := by
 have lg := log_am h22
 rw [hl] at lg
 have b2 := b2_am
 rw [f86_eq]
 generalize V.rop 128 glob3 = G at *
 refine (bstep hL _).trans ?_
 refine (bstep lg _).trans ?_
 refine (bstep hp _).trans ?_
 have ge : bin .geq (.int .u64 (n : Int)) (.int .u64 (p : Int)) = some (.bool (decide ((p : Int) ≤ (n : Int)))) := by rw [b_geq]
 refine (bstep (show ldP [] 92 (.rop 92 (.int .u64 (p : Int))) = some (.int .u64 (p : Int)) from rfl) _).trans ?_
 refine (bstep ge _).trans ?_
 refine (bstep (b2 _) _).trans ?_
 by_cases hpn : p ≤ n
 · rw [if_pos hpn, decide_eq_true (show (p : Int) ≤ (n : Int) by omega)]
   refine (bstep (show bin .add (.int .i64 (l : Int)) (.int .i64 1) = some (.int .i64 ((l + 1 : Nat) : Int)) by rw [b_add, wrap_i64 (by omega) (by omega)]; rfl) _).trans ?_
   rfl
 · rw [if_neg hpn, decide_eq_false (show ¬ (p : Int) ≤ (n : Int) by omega)]
   refine (bstep (show bin .add (.int .i64 (l : Int)) (.int .i64 0) = some (.int .i64 ((l + 0 : Nat) : Int)) by rw [b_add, wrap_i64 (by omega) (by omega)]; rfl) _).trans ?_
   rfl
theorem lenC_1 {b : Nat} (h1 : 1 ≤ b) (h2 : b < 2) : lenC b = 1 := by simp only [lenC]; (repeat' split) <;> omega
theorem lenC_2 {b : Nat} (h1 : 2 ≤ b) (h2 : b < 4) : lenC b = 2 := by simp only [lenC]; (repeat' split) <;> omega
theorem lenC_3 {b : Nat} (h1 : 4 ≤ b) (h2 : b < 8) : lenC b = 3 := by simp only [lenC]; (repeat' split) <;> omega
theorem lenC_4 {b : Nat} (h1 : 8 ≤ b) (h2 : b < 16) : lenC b = 4 := by simp only [lenC]; (repeat' split) <;> omega
theorem lenC_5 {b : Nat} (h1 : 16 ≤ b) (h2 : b < 32) : lenC b = 5 := by simp only [lenC]; (repeat' split) <;> omega
theorem lenC_6 {b : Nat} (h1 : 32 ≤ b) (h2 : b < 64) : lenC b = 6 := by simp only [lenC]; (repeat' split) <;> omega
theorem lenC_7 {b : Nat} (h1 : 64 ≤ b) (h2 : b < 128) : lenC b = 7 := by simp only [lenC]; (repeat' split) <;> omega
theorem lenC_8 {b : Nat} (h1 : 128 ≤ b) (h2 : b < 256) : lenC b = 8 := by simp only [lenC]; (repeat' split) <;> omega
theorem nd_am {n : Nat} (h1 : 100 ≤ n) (h2 : n ≤ 1048576) : Cl 86 [.int .u64 (n : Int)] [] = some (.int .i64 (ndC n : Int), []) := by
 have hL := len_am (n := n) (by omega)
 obtain ⟨p2, p3, p4, p5, p6⟩ := pow_at
 have go : ∀ {L l p : Nat}, (if n < 256 then lenC n else if n < 65536 then 8 + lenC (n / 256) else 16 + lenC (n / 65536)) = L → L < 22 → L * 78913 / 262144 = l → ixA 128 128 20 92 (V.rop 128 glob3) (.int .i64 (l : Int)) = some (.rop 92 (.int .u64 (p : Int))) → l ≤ 6 → (l + if p ≤ n then 1 else 0 : Nat) = ndC n → Cl 86 [.int .u64 (n : Int)] [] = some (.int .i64 (ndC n : Int), []) := by
  intro L l p e a b c d f
  rw [e] at hL
  rw [← f]
  exact nd_step hL a b c d
 have A : ∀ {L : Nat}, n < 256 → lenC n = L → (if n < 256 then lenC n else if n < 65536 then 8 + lenC (n / 256) else 16 + lenC (n / 65536)) = L := fun h e => by rw [if_pos h, e]
 have B : ∀ {L : Nat}, 256 ≤ n → n < 65536 → lenC (n / 256) = L → (if n < 256 then lenC n else if n < 65536 then 8 + lenC (n / 256) else 16 + lenC (n / 65536)) = 8 + L := fun h h' e => by rw [if_neg (by omega), if_pos h', e]
 have C : ∀ {L : Nat}, 65536 ≤ n → lenC (n / 65536) = L → (if n < 256 then lenC n else if n < 65536 then 8 + lenC (n / 256) else 16 + lenC (n / 65536)) = 16 + L := fun h e => by rw [if_neg (by omega), if_neg (by omega), e]
 have D2 : n < 1000 → (2 + if 100 ≤ n then 1 else 0 : Nat) = ndC n := fun h => by rw [ndC, if_pos h, if_pos h1]
 have D3 : 512 ≤ n → n < 10000 → (3 + if 1000 ≤ n then 1 else 0 : Nat) = ndC n := fun h h' => by simp only [ndC]; (repeat' split) <;> omega
 have D4 : 8192 ≤ n → n < 100000 → (4 + if 10000 ≤ n then 1 else 0 : Nat) = ndC n := fun h h' => by simp only [ndC]; (repeat' split) <;> omega
 have D5 : 65536 ≤ n → n < 1000000 → (5 + if 100000 ≤ n then 1 else 0 : Nat) = ndC n := fun h h' => by simp only [ndC]; (repeat' split) <;> omega
 have D6 : 524288 ≤ n → (6 + if 1000000 ≤ n then 1 else 0 : Nat) = ndC n := fun h => by simp only [ndC]; (repeat' split) <;> omega
 by_cases c0 : n < 128
 · exact go (L := 7) (l := 2) (p := 100) (A (by omega) (lenC_7 (by omega) (by omega))) (by omega) (by omega) p2 (by omega) (D2 (by omega))
 by_cases c1 : n < 256
 · exact go (L := 8) (l := 2) (p := 100) (A (by omega) (lenC_8 (by omega) (by omega))) (by omega) (by omega) p2 (by omega) (D2 (by omega))
 by_cases c2 : n < 512
 · exact go (L := 9) (l := 2) (p := 100) (B (by omega) (by omega) (lenC_1 (by omega) (by omega))) (by omega) (by omega) p2 (by omega) (D2 (by omega))
 by_cases c3 : n < 1024
 · exact go (L := 10) (l := 3) (p := 1000) (B (by omega) (by omega) (lenC_2 (by omega) (by omega))) (by omega) (by omega) p3 (by omega) (D3 (by omega) (by omega))
 by_cases c4 : n < 2048
 · exact go (L := 11) (l := 3) (p := 1000) (B (by omega) (by omega) (lenC_3 (by omega) (by omega))) (by omega) (by omega) p3 (by omega) (D3 (by omega) (by omega))
 by_cases c5 : n < 4096
 · exact go (L := 12) (l := 3) (p := 1000) (B (by omega) (by omega) (lenC_4 (by omega) (by omega))) (by omega) (by omega) p3 (by omega) (D3 (by omega) (by omega))
 by_cases c6 : n < 8192
 · exact go (L := 13) (l := 3) (p := 1000) (B (by omega) (by omega) (lenC_5 (by omega) (by omega))) (by omega) (by omega) p3 (by omega) (D3 (by omega) (by omega))
 by_cases c7 : n < 16384
 · exact go (L := 14) (l := 4) (p := 10000) (B (by omega) (by omega) (lenC_6 (by omega) (by omega))) (by omega) (by omega) p4 (by omega) (D4 (by omega) (by omega))
 by_cases c8 : n < 32768
 · exact go (L := 15) (l := 4) (p := 10000) (B (by omega) (by omega) (lenC_7 (by omega) (by omega))) (by omega) (by omega) p4 (by omega) (D4 (by omega) (by omega))
 by_cases c9 : n < 65536
 · exact go (L := 16) (l := 4) (p := 10000) (B (by omega) (by omega) (lenC_8 (by omega) (by omega))) (by omega) (by omega) p4 (by omega) (D4 (by omega) (by omega))
 by_cases c10 : n < 131072
 · exact go (L := 17) (l := 5) (p := 100000) (C (by omega) (lenC_1 (by omega) (by omega))) (by omega) (by omega) p5 (by omega) (D5 (by omega) (by omega))
 by_cases c11 : n < 262144
 · exact go (L := 18) (l := 5) (p := 100000) (C (by omega) (lenC_2 (by omega) (by omega))) (by omega) (by omega) p5 (by omega) (D5 (by omega) (by omega))
 by_cases c12 : n < 524288
 · exact go (L := 19) (l := 5) (p := 100000) (C (by omega) (lenC_3 (by omega) (by omega))) (by omega) (by omega) p5 (by omega) (D5 (by omega) (by omega))
 by_cases c13 : n < 1048576
 · exact go (L := 20) (l := 6) (p := 1000000) (C (by omega) (lenC_4 (by omega) (by omega))) (by omega) (by omega) p6 (by omega) (D6 (by omega))
 exact go (L := 21) (l := 6) (p := 1000000) (C (by omega) (lenC_5 (by omega) (by omega))) (by omega) (by omega) p6 (by omega) (D6 (by omega))
end Go.Proofs.YtaghnpjlhmgioaaDoor
end

section
set_option linter.unusedVariables false
set_option linter.unusedSimpArgs false
set_option linter.unusedSectionVars false
set_option maxRecDepth 100000
namespace Go.Proofs.YtaghnpjlhmgioaaDoor
open Go AM
abbrev bD (j : Nat) : V := .int .u8 ((dg j).toNat : Int)
def pairS (S : List UInt8) (a b : Int) (t0 t4 t16 : V) (h : List V) (k : List V → Rv) : Rv :=
 (bin .sub t4 (V.int .i64 a)).bind fun t147 => (bin .sub t4 (V.int .i64 b)).bind fun t150 => (bin .add t16 (V.int .u32 1)).bind fun t152 => (ixT (V.str S) t152).bind fun t153 => (ixT (V.str S) t16).bind fun t155 => (ixS 5 (V.weak t0) t147).bind fun t156 => (stT (tyI .u8) 5 h t156 t153).bind fun h_1 => (ixS 5 (V.weak t0) t150).bind fun t157 => (stT (tyI .u8) 5 h_1 t157 t155).bind fun h_2 => k h_2
def smOk (S : List UInt8) : Bool := Nat.beq S.length 200 && (List.range 100).all fun k => decide (S[2 * k]? = some (dg (k / 10))) && decide (S[2 * k + 1]? = some (dg (k % 10)))
theorem r23_tab : ∃ S : List UInt8, (∀ t0 t4 t16 h k, f87_r23 t0 t4 t16 h k = pairS S 1 2 t0 t4 t16 h k) ∧ smOk S = true := ⟨_, fun _ _ _ _ _ => rfl, by kernel_rfl⟩
theorem r17_tab : ∃ S : List UInt8, (∀ t0 t4 t16 h k, f87_r17 t0 t4 t16 h k = pairS S 1 2 t0 t4 t16 h k) ∧ smOk S = true := ⟨_, fun _ _ _ _ _ => rfl, by kernel_rfl⟩
theorem r18_tab : ∃ S : List UInt8, (∀ t0 t4 t16 h k, f87_r18 t0 t4 t16 h k = pairS S 3 4 t0 t4 t16 h k) ∧ smOk S = true := ⟨_, fun _ _ _ _ _ => rfl, by kernel_rfl⟩
theorem pairS_am {S : List UInt8} (hS : smOk S = true) {u : TypeId} {xs : List V} (hx : xs.length = 24) {nd m a k : Nat} (ha : 1 ≤ a) (hm : a + 1 ≤ m) (hmn : m ≤ nd) (hnd : nd ≤ 8) (hk : k < 100) (K : List V → Rv) :
 pairS S (a : Int) ((a + 1 : Nat) : Int) (.win 0 [] 1 nd 5) (.int .i64 (m : Int)) (.int .u32 ((k * 2 : Nat) : Int)) [.agg u xs] K = K [.agg u ((xs.set (m - a + 1) (bD (k % 10))).set (m - a) (bD (k / 10)))] := by
 simp only [smOk, Bool.and_eq_true, List.all_eq_true, List.mem_range, decide_eq_true_eq] at hS
 obtain ⟨h200, hS⟩ := hS
 have h200 : S.length = 200 := Nat.eq_of_beq_eq_true h200
 obtain ⟨s0, s1⟩ := hS k hk
 have b1 : bin .sub (.int .i64 (m : Int)) (.int .i64 (a : Int)) = some (.int .i64 ((m - a : Nat) : Int)) := by
  rw [b_sub, wrap_i64 (by omega) (by omega)]; congr 2; omega
 have b2 : bin .sub (.int .i64 (m : Int)) (.int .i64 ((a + 1 : Nat) : Int)) = some (.int .i64 ((m - a - 1 : Nat) : Int)) := by
  rw [b_sub, wrap_i64 (by omega) (by omega)]; congr 2; omega
 have b3 : bin .add (.int .u32 ((k * 2 : Nat) : Int)) (.int .u32 1) = some (.int .u32 ((2 * k + 1 : Nat) : Int)) := by
  rw [b_add, wrap_u32 (by omega) (by omega)]; congr 2; omega
 have i1 : ixT (.str S) (.int .u32 ((2 * k + 1 : Nat) : Int)) = some (bD (k % 10)) := by
  have hi : inside ((2 * k + 1 : Nat) : Int) S.length = true := by simp only [inside, h200, Bool.and_eq_true, decide_eq_true_eq]; omega
  simp only [ixT, hi, if_true, Int.toNat_natCast, s1, Option.map_some]
 have i2 : ixT (.str S) (.int .u32 ((k * 2 : Nat) : Int)) = some (bD (k / 10)) := by
  rw [Nat.mul_comm k 2]
  have hi : inside ((2 * k : Nat) : Int) S.length = true := by simp only [inside, h200, Bool.and_eq_true, decide_eq_true_eq]; omega
  simp only [ixT, hi, if_true, Int.toNat_natCast, s0, Option.map_some]
 have x1 : ixS 5 (V.weak (.win 0 [] 1 nd 5)) (.int .i64 ((m - a : Nat) : Int)) = some (.ref 0 [m - a + 1] 5) := by
  have hi : inside ((m - a : Nat) : Int) nd = true := by simp only [inside, Bool.and_eq_true, decide_eq_true_eq]; omega
  simp only [V.weak, ixS, hi, Int.toNat_natCast, decide_true, Bool.and_self, if_true, List.nil_append, show 1 + (m - a) = m - a + 1 by omega]
 have x2 : ixS 5 (V.weak (.win 0 [] 1 nd 5)) (.int .i64 ((m - a - 1 : Nat) : Int)) = some (.ref 0 [m - a] 5) := by
  have hi : inside ((m - a - 1 : Nat) : Int) nd = true := by simp only [inside, Bool.and_eq_true, decide_eq_true_eq]; omega
  simp only [V.weak, ixS, hi, Int.toNat_natCast, decide_true, Bool.and_self, if_true, List.nil_append, show 1 + (m - a - 1) = m - a by omega]
 have w : ∀ (ys : List V) (i j : Nat), i < ys.length → stT (tyI .u8) 5 [.agg u ys] (.ref 0 [i] 5) (bD j) = some [.agg u (ys.set i (bD j))] := by
  intro ys i j hi
  rw [stT_r1 (h := [.agg u ys]) (id := 0) rfl hi rfl rfl]; rfl
 unfold pairS
 refine (bstep b1 _).trans ?_
 refine (bstep b2 _).trans ?_
 refine (bstep b3 _).trans ?_
 refine (bstep i1 _).trans ?_
 refine (bstep i2 _).trans ?_
 refine (bstep x1 _).trans ?_
 refine (bstep (w xs _ _ (by omega)) _).trans ?_
 refine (bstep x2 _).trans ?_
 refine (bstep (w _ _ _ (by rw [List.length_set]; omega)) _).trans ?_
 rfl
theorem r23_am {u : TypeId} {xs : List V} (hx : xs.length = 24) {nd m k : Nat} (hm : 2 ≤ m) (hmn : m ≤ nd) (hnd : nd ≤ 8) (hk : k < 100) (K : List V → Rv) :
 f87_r23 (.win 0 [] 1 nd 5) (.int .i64 (m : Int)) (.int .u32 ((k * 2 : Nat) : Int)) [.agg u xs] K = K [.agg u ((xs.set (m - 1 + 1) (bD (k % 10))).set (m - 1) (bD (k / 10)))] := by
 obtain ⟨S, h1, h2⟩ := r23_tab
 rw [h1]; exact pairS_am h2 hx (a := 1) (by omega) (by omega) hmn hnd hk K
theorem r17_am {u : TypeId} {xs : List V} (hx : xs.length = 24) {nd m k : Nat} (hm : 2 ≤ m) (hmn : m ≤ nd) (hnd : nd ≤ 8) (hk : k < 100) (K : List V → Rv) :
 f87_r17 (.win 0 [] 1 nd 5) (.int .i64 (m : Int)) (.int .u32 ((k * 2 : Nat) : Int)) [.agg u xs] K = K [.agg u ((xs.set (m - 1 + 1) (bD (k % 10))).set (m - 1) (bD (k / 10)))] := by
 obtain ⟨S, h1, h2⟩ := r17_tab
 rw [h1]; exact pairS_am h2 hx (a := 1) (by omega) (by omega) hmn hnd hk K
theorem r18_am {u : TypeId} {xs : List V} (hx : xs.length = 24) {nd m k : Nat} (hm : 4 ≤ m) (hmn : m ≤ nd) (hnd : nd ≤ 8) (hk : k < 100) (K : List V → Rv) :
 f87_r18 (.win 0 [] 1 nd 5) (.int .i64 (m : Int)) (.int .u32 ((k * 2 : Nat) : Int)) [.agg u xs] K = K [.agg u ((xs.set (m - 3 + 1) (bD (k % 10))).set (m - 3) (bD (k / 10)))] := by
 obtain ⟨S, h1, h2⟩ := r18_tab
 rw [h1]; exact pairS_am h2 hx (a := 3) (by omega) (by omega) hmn hnd hk K
theorem r26_am {u : TypeId} {xs : List V} (hx : xs.length = 24) {nd k : Nat} (hnd : 1 ≤ nd) (hk : k < 10) (K : List V → Rv) :
 f87_r26 (.win 0 [] 1 nd 5) (.int .u32 (k : Int)) [.agg u xs] K = K [.agg u (xs.set 1 (bD k))] := by
 have b3 : bin .add (.int .u32 48) (.int .u32 (k : Int)) = some (.int .u32 ((48 + k : Nat) : Int)) := by
  rw [b_add, wrap_u32 (by omega) (by omega)]; congr 2
 have c8 : cvI .u8 (.int .u32 ((48 + k : Nat) : Int)) = some (bD k) := by
  rw [cvI_u8 (by omega) (by omega)]
  have : (dg k).toNat = 48 + k := by simp [dg]; omega
  rw [bD, this]
 have x2 : ixS 5 (.win 0 [] 1 nd 5) (.int .i64 0) = some (.ref 0 [1] 5) := by
  have hi : inside (0 : Int) nd = true := by simp only [inside, Bool.and_eq_true, decide_eq_true_eq]; omega
  simp only [ixS, hi, decide_true, Bool.and_self, if_true, List.nil_append]; rfl
 have w : stT (tyI .u8) 5 [.agg u xs] (.ref 0 [1] 5) (bD k) = some [.agg u (xs.set 1 (bD k))] := by
  rw [stT_r1 (h := [.agg u xs]) (id := 0) rfl (by omega) rfl rfl]; rfl
 unfold f87_r26
 refine (bstep b3 _).trans ?_
 refine (bstep c8 _).trans ?_
 refine (bstep x2 _).trans ?_
 exact bstep w _
end Go.Proofs.YtaghnpjlhmgioaaDoor
end

section
set_option linter.unusedVariables false
set_option linter.unusedSimpArgs false
set_option linter.unusedSectionVars false
set_option maxRecDepth 100000
namespace Go.Proofs.YtaghnpjlhmgioaaDoor
open Go AM
theorem q32 {a : Nat} (h : a < 4294967296) {c : Nat} (hc : 0 < c) : bin .quo (.int .u32 (a : Int)) (.int .u32 (c : Int)) = some (.int .u32 ((a / c : Nat) : Int)) := by
 have := Nat.div_le_self a c
 rw [b_quo _ _ _ (by omega), (natDivMod a c).1]
 generalize a / c = q at *
 rw [wrap_u32 (by omega) (by omega)]
theorem q100 {a : Nat} (h : a < 4294967296) : bin .quo (.int .u32 (a : Int)) (.int .u32 100) = some (.int .u32 ((a / 100 : Nat) : Int)) := q32 (c := 100) h (by omega)
theorem q10000 {a : Nat} (h : a < 4294967296) : bin .quo (.int .u32 (a : Int)) (.int .u32 10000) = some (.int .u32 ((a / 10000 : Nat) : Int)) := q32 (c := 10000) h (by omega)
theorem r100 (a : Nat) : bin .rem (.int .u32 (a : Int)) (.int .u32 100) = some (.int .u32 ((a % 100 : Nat) : Int)) := remN (b := 100) (by omega) _
theorem r10000 (a : Nat) : bin .rem (.int .u32 (a : Int)) (.int .u32 10000) = some (.int .u32 ((a % 10000 : Nat) : Int)) := remN (b := 10000) (by omega) _
theorem m2 {a : Nat} (h : a < 1000000) : bin .mul (.int .u32 (a : Int)) (.int .u32 2) = some (.int .u32 ((a * 2 : Nat) : Int)) := by
 rw [b_mul, wrap_u32 (by omega) (by omega)]; rfl
theorem fb3 {n : Nat} (h1 : 100 ≤ n) (h2 : n < 1000) {u : TypeId} {xs : List V} (hx : xs.length = 24) : Cl 87 [.win 0 [] 1 3 5, .int .u64 (n : Int)] [.agg u xs] = some (.tup [], [.agg u (((xs.set 3 (bD ((n % 100) % 10))).set 2 (bD ((n % 100) / 10))).set 1 (bD (n / 100)))]) := by
 have cv : cvI .u32 (.int .u64 (n : Int)) = some (.int .u32 (n : Int)) := by rw [cvI, wrap_u32 (by omega) (by omega)]
 have ok : (List.all [] V.okE) = true := rfl
 rw [f87_eq, f87_r0]
 refine (bstep (show lnL (V.weak (.win 0 [] 1 3 5)) = some (.int .i64 3) from rfl) _).trans ?_
 refine (f87_l0_eq ..).trans ?_
 simp only [f87_r1, f87_r12, f87_r13, f87_r14, f87_r15, f87_r16, f87_r19, f87_r20, f87_r21, f87_r22, f87_r24, f87_r25]
 (repeat' with_reducible first | refine (ite_T _ _).trans ?_ | refine (ite_F _ _).trans ?_ | refine (jn_eq _ _).trans ?_ | refine (bstep (by first | rfl | (simp (disch := first | assumption | omega | (with_reducible rfl) | (simp only [go_sem]; done) | (simp only [go_sem]; omega) | fail) only [↓reduceIte, ↓jn_eq, Nat.reduceAdd, go_sem, Bool.not_true, Bool.not_false, cv, q100, q10000, r100, r10000, m2, ok]; rfl)) _).trans ?_ | refine (if_pos (by first | rfl | (simp (disch := first | assumption | omega | (with_reducible rfl) | (simp only [go_sem]; done) | (simp only [go_sem]; omega) | fail) only [↓reduceIte, ↓jn_eq, Nat.reduceAdd, go_sem, Bool.not_true, Bool.not_false, cv, q100, q10000, r100, r10000, m2, ok]; done))).trans ?_ | refine (ite_dec (by first | assumption | omega | (simp (disch := first | assumption | omega | (with_reducible rfl) | (simp only [go_sem]; done) | (simp only [go_sem]; omega) | fail) only [↓reduceIte, ↓jn_eq, Nat.reduceAdd, go_sem, Bool.not_true, Bool.not_false, cv, q100, q10000, r100, r10000, m2, ok]; done) | (simp (disch := first | assumption | omega | (with_reducible rfl) | (simp only [go_sem]; done) | (simp only [go_sem]; omega) | fail) only [↓reduceIte, ↓jn_eq, Nat.reduceAdd, go_sem, Bool.not_true, Bool.not_false, cv, q100, q10000, r100, r10000, m2, ok]; omega)) _ _).trans ?_ | refine (ite_ndec (by first | assumption | omega | (simp (disch := first | assumption | omega | (with_reducible rfl) | (simp only [go_sem]; done) | (simp only [go_sem]; omega) | fail) only [↓reduceIte, ↓jn_eq, Nat.reduceAdd, go_sem, Bool.not_true, Bool.not_false, cv, q100, q10000, r100, r10000, m2, ok]; done) | (simp (disch := first | assumption | omega | (with_reducible rfl) | (simp only [go_sem]; done) | (simp only [go_sem]; omega) | fail) only [↓reduceIte, ↓jn_eq, Nat.reduceAdd, go_sem, Bool.not_true, Bool.not_false, cv, q100, q10000, r100, r10000, m2, ok]; omega)) _ _).trans ?_ | fail)
 refine (r23_am (m := 3) (k := n % 100) (by first | exact hx | (simp only [List.length_set]; exact hx)) (by omega) (by omega) (by omega) (by omega) _).trans ?_
 (repeat' with_reducible first | refine (ite_T _ _).trans ?_ | refine (ite_F _ _).trans ?_ | refine (jn_eq _ _).trans ?_ | refine (bstep (by first | rfl | (simp (disch := first | assumption | omega | (with_reducible rfl) | (simp only [go_sem]; done) | (simp only [go_sem]; omega) | fail) only [↓reduceIte, ↓jn_eq, Nat.reduceAdd, go_sem, Bool.not_true, Bool.not_false, cv, q100, q10000, r100, r10000, m2, ok]; rfl)) _).trans ?_ | refine (if_pos (by first | rfl | (simp (disch := first | assumption | omega | (with_reducible rfl) | (simp only [go_sem]; done) | (simp only [go_sem]; omega) | fail) only [↓reduceIte, ↓jn_eq, Nat.reduceAdd, go_sem, Bool.not_true, Bool.not_false, cv, q100, q10000, r100, r10000, m2, ok]; done))).trans ?_ | refine (ite_dec (by first | assumption | omega | (simp (disch := first | assumption | omega | (with_reducible rfl) | (simp only [go_sem]; done) | (simp only [go_sem]; omega) | fail) only [↓reduceIte, ↓jn_eq, Nat.reduceAdd, go_sem, Bool.not_true, Bool.not_false, cv, q100, q10000, r100, r10000, m2, ok]; done) | (simp (disch := first | assumption | omega | (with_reducible rfl) | (simp only [go_sem]; done) | (simp only [go_sem]; omega) | fail) only [↓reduceIte, ↓jn_eq, Nat.reduceAdd, go_sem, Bool.not_true, Bool.not_false, cv, q100, q10000, r100, r10000, m2, ok]; omega)) _ _).trans ?_ | refine (ite_ndec (by first | assumption | omega | (simp (disch := first | assumption | omega | (with_reducible rfl) | (simp only [go_sem]; done) | (simp only [go_sem]; omega) | fail) only [↓reduceIte, ↓jn_eq, Nat.reduceAdd, go_sem, Bool.not_true, Bool.not_false, cv, q100, q10000, r100, r10000, m2, ok]; done) | (simp (disch := first | assumption | omega | (with_reducible rfl) | (simp only [go_sem]; done) | (simp only [go_sem]; omega) | fail) only [↓reduceIte, ↓jn_eq, Nat.reduceAdd, go_sem, Bool.not_true, Bool.not_false, cv, q100, q10000, r100, r10000, m2, ok]; omega)) _ _).trans ?_ | fail)
 refine (r26_am (k := n / 100) (by first | exact hx | (simp only [List.length_set]; exact hx)) (by omega) (by omega) _).trans ?_
 (repeat' with_reducible first | refine (ite_T _ _).trans ?_ | refine (ite_F _ _).trans ?_ | refine (jn_eq _ _).trans ?_ | refine (bstep (by first | rfl | (simp (disch := first | assumption | omega | (with_reducible rfl) | (simp only [go_sem]; done) | (simp only [go_sem]; omega) | fail) only [↓reduceIte, ↓jn_eq, Nat.reduceAdd, go_sem, Bool.not_true, Bool.not_false, cv, q100, q10000, r100, r10000, m2, ok]; rfl)) _).trans ?_ | refine (if_pos (by first | rfl | (simp (disch := first | assumption | omega | (with_reducible rfl) | (simp only [go_sem]; done) | (simp only [go_sem]; omega) | fail) only [↓reduceIte, ↓jn_eq, Nat.reduceAdd, go_sem, Bool.not_true, Bool.not_false, cv, q100, q10000, r100, r10000, m2, ok]; done))).trans ?_ | refine (ite_dec (by first | assumption | omega | (simp (disch := first | assumption | omega | (with_reducible rfl) | (simp only [go_sem]; done) | (simp only [go_sem]; omega) | fail) only [↓reduceIte, ↓jn_eq, Nat.reduceAdd, go_sem, Bool.not_true, Bool.not_false, cv, q100, q10000, r100, r10000, m2, ok]; done) | (simp (disch := first | assumption | omega | (with_reducible rfl) | (simp only [go_sem]; done) | (simp only [go_sem]; omega) | fail) only [↓reduceIte, ↓jn_eq, Nat.reduceAdd, go_sem, Bool.not_true, Bool.not_false, cv, q100, q10000, r100, r10000, m2, ok]; omega)) _ _).trans ?_ | refine (ite_ndec (by first | assumption | omega | (simp (disch := first | assumption | omega | (with_reducible rfl) | (simp only [go_sem]; done) | (simp only [go_sem]; omega) | fail) only [↓reduceIte, ↓jn_eq, Nat.reduceAdd, go_sem, Bool.not_true, Bool.not_false, cv, q100, q10000, r100, r10000, m2, ok]; done) | (simp (disch := first | assumption | omega | (with_reducible rfl) | (simp only [go_sem]; done) | (simp only [go_sem]; omega) | fail) only [↓reduceIte, ↓jn_eq, Nat.reduceAdd, go_sem, Bool.not_true, Bool.not_false, cv, q100, q10000, r100, r10000, m2, ok]; omega)) _ _).trans ?_ | fail)
 rfl
theorem fb4 {n : Nat} (h1 : 1000 ≤ n) (h2 : n < 10000) {u : TypeId} {xs : List V} (hx : xs.length = 24) : Cl 87 [.win 0 [] 1 4 5, .int .u64 (n : Int)] [.agg u xs] = some (.tup [], [.agg u ((((xs.set 4 (bD ((n % 10000 % 100) % 10))).set 3 (bD ((n % 10000 % 100) / 10))).set 2 (bD ((n % 10000 / 100) % 10))).set 1 (bD ((n % 10000 / 100) / 10)))]) := by
 have cv : cvI .u32 (.int .u64 (n : Int)) = some (.int .u32 (n : Int)) := by rw [cvI, wrap_u32 (by omega) (by omega)]
 have ok : (List.all [] V.okE) = true := rfl
 rw [f87_eq, f87_r0]
 refine (bstep (show lnL (V.weak (.win 0 [] 1 4 5)) = some (.int .i64 4) from rfl) _).trans ?_
 refine (f87_l0_eq ..).trans ?_
 simp only [f87_r1, f87_r12, f87_r13, f87_r14, f87_r15, f87_r16, f87_r19, f87_r20, f87_r21, f87_r22, f87_r24, f87_r25]
 (repeat' with_reducible first | refine (ite_T _ _).trans ?_ | refine (ite_F _ _).trans ?_ | refine (jn_eq _ _).trans ?_ | refine (bstep (by first | rfl | (simp (disch := first | assumption | omega | (with_reducible rfl) | (simp only [go_sem]; done) | (simp only [go_sem]; omega) | fail) only [↓reduceIte, ↓jn_eq, Nat.reduceAdd, go_sem, Bool.not_true, Bool.not_false, cv, q100, q10000, r100, r10000, m2, ok]; rfl)) _).trans ?_ | refine (if_pos (by first | rfl | (simp (disch := first | assumption | omega | (with_reducible rfl) | (simp only [go_sem]; done) | (simp only [go_sem]; omega) | fail) only [↓reduceIte, ↓jn_eq, Nat.reduceAdd, go_sem, Bool.not_true, Bool.not_false, cv, q100, q10000, r100, r10000, m2, ok]; done))).trans ?_ | refine (ite_dec (by first | assumption | omega | (simp (disch := first | assumption | omega | (with_reducible rfl) | (simp only [go_sem]; done) | (simp only [go_sem]; omega) | fail) only [↓reduceIte, ↓jn_eq, Nat.reduceAdd, go_sem, Bool.not_true, Bool.not_false, cv, q100, q10000, r100, r10000, m2, ok]; done) | (simp (disch := first | assumption | omega | (with_reducible rfl) | (simp only [go_sem]; done) | (simp only [go_sem]; omega) | fail) only [↓reduceIte, ↓jn_eq, Nat.reduceAdd, go_sem, Bool.not_true, Bool.not_false, cv, q100, q10000, r100, r10000, m2, ok]; omega)) _ _).trans ?_ | refine (ite_ndec (by first | assumption | omega | (simp (disch := first | assumption | omega | (with_reducible rfl) | (simp only [go_sem]; done) | (simp only [go_sem]; omega) | fail) only [↓reduceIte, ↓jn_eq, Nat.reduceAdd, go_sem, Bool.not_true, Bool.not_false, cv, q100, q10000, r100, r10000, m2, ok]; done) | (simp (disch := first | assumption | omega | (with_reducible rfl) | (simp only [go_sem]; done) | (simp only [go_sem]; omega) | fail) only [↓reduceIte, ↓jn_eq, Nat.reduceAdd, go_sem, Bool.not_true, Bool.not_false, cv, q100, q10000, r100, r10000, m2, ok]; omega)) _ _).trans ?_ | fail)
 refine (r17_am (m := 4) (k := n % 10000 % 100) (by first | exact hx | (simp only [List.length_set]; exact hx)) (by omega) (by omega) (by omega) (by omega) _).trans ?_
 (repeat' with_reducible first | refine (ite_T _ _).trans ?_ | refine (ite_F _ _).trans ?_ | refine (jn_eq _ _).trans ?_ | refine (bstep (by first | rfl | (simp (disch := first | assumption | omega | (with_reducible rfl) | (simp only [go_sem]; done) | (simp only [go_sem]; omega) | fail) only [↓reduceIte, ↓jn_eq, Nat.reduceAdd, go_sem, Bool.not_true, Bool.not_false, cv, q100, q10000, r100, r10000, m2, ok]; rfl)) _).trans ?_ | refine (if_pos (by first | rfl | (simp (disch := first | assumption | omega | (with_reducible rfl) | (simp only [go_sem]; done) | (simp only [go_sem]; omega) | fail) only [↓reduceIte, ↓jn_eq, Nat.reduceAdd, go_sem, Bool.not_true, Bool.not_false, cv, q100, q10000, r100, r10000, m2, ok]; done))).trans ?_ | refine (ite_dec (by first | assumption | omega | (simp (disch := first | assumption | omega | (with_reducible rfl) | (simp only [go_sem]; done) | (simp only [go_sem]; omega) | fail) only [↓reduceIte, ↓jn_eq, Nat.reduceAdd, go_sem, Bool.not_true, Bool.not_false, cv, q100, q10000, r100, r10000, m2, ok]; done) | (simp (disch := first | assumption | omega | (with_reducible rfl) | (simp only [go_sem]; done) | (simp only [go_sem]; omega) | fail) only [↓reduceIte, ↓jn_eq, Nat.reduceAdd, go_sem, Bool.not_true, Bool.not_false, cv, q100, q10000, r100, r10000, m2, ok]; omega)) _ _).trans ?_ | refine (ite_ndec (by first | assumption | omega | (simp (disch := first | assumption | omega | (with_reducible rfl) | (simp only [go_sem]; done) | (simp only [go_sem]; omega) | fail) only [↓reduceIte, ↓jn_eq, Nat.reduceAdd, go_sem, Bool.not_true, Bool.not_false, cv, q100, q10000, r100, r10000, m2, ok]; done) | (simp (disch := first | assumption | omega | (with_reducible rfl) | (simp only [go_sem]; done) | (simp only [go_sem]; omega) | fail) only [↓reduceIte, ↓jn_eq, Nat.reduceAdd, go_sem, Bool.not_true, Bool.not_false, cv, q100, q10000, r100, r10000, m2, ok]; omega)) _ _).trans ?_ | fail)
 refine (r18_am (m := 4) (k := n % 10000 / 100) (by first | exact hx | (simp only [List.length_set]; exact hx)) (by omega) (by omega) (by omega) (by omega) _).trans ?_
 (repeat' with_reducible first | refine (ite_T _ _).trans ?_ | refine (ite_F _ _).trans ?_ | refine (jn_eq _ _).trans ?_ | refine (bstep (by first | rfl | (simp (disch := first | assumption | omega | (with_reducible rfl) | (simp only [go_sem]; done) | (simp only [go_sem]; omega) | fail) only [↓reduceIte, ↓jn_eq, Nat.reduceAdd, go_sem, Bool.not_true, Bool.not_false, cv, q100, q10000, r100, r10000, m2, ok]; rfl)) _).trans ?_ | refine (if_pos (by first | rfl | (simp (disch := first | assumption | omega | (with_reducible rfl) | (simp only [go_sem]; done) | (simp only [go_sem]; omega) | fail) only [↓reduceIte, ↓jn_eq, Nat.reduceAdd, go_sem, Bool.not_true, Bool.not_false, cv, q100, q10000, r100, r10000, m2, ok]; done))).trans ?_ | refine (ite_dec (by first | assumption | omega | (simp (disch := first | assumption | omega | (with_reducible rfl) | (simp only [go_sem]; done) | (simp only [go_sem]; omega) | fail) only [↓reduceIte, ↓jn_eq, Nat.reduceAdd, go_sem, Bool.not_true, Bool.not_false, cv, q100, q10000, r100, r10000, m2, ok]; done) | (simp (disch := first | assumption | omega | (with_reducible rfl) | (simp only [go_sem]; done) | (simp only [go_sem]; omega) | fail) only [↓reduceIte, ↓jn_eq, Nat.reduceAdd, go_sem, Bool.not_true, Bool.not_false, cv, q100, q10000, r100, r10000, m2, ok]; omega)) _ _).trans ?_ | refine (ite_ndec (by first | assumption | omega | (simp (disch := first | assumption | omega | (with_reducible rfl) | (simp only [go_sem]; done) | (simp only [go_sem]; omega) | fail) only [↓reduceIte, ↓jn_eq, Nat.reduceAdd, go_sem, Bool.not_true, Bool.not_false, cv, q100, q10000, r100, r10000, m2, ok]; done) | (simp (disch := first | assumption | omega | (with_reducible rfl) | (simp only [go_sem]; done) | (simp only [go_sem]; omega) | fail) only [↓reduceIte, ↓jn_eq, Nat.reduceAdd, go_sem, Bool.not_true, Bool.not_false, cv, q100, q10000, r100, r10000, m2, ok]; omega)) _ _).trans ?_ | fail)
 rfl
theorem fb5 {n : Nat} (h1 : 10000 ≤ n) (h2 : n < 100000) {u : TypeId} {xs : List V} (hx : xs.length = 24) : Cl 87 [.win 0 [] 1 5 5, .int .u64 (n : Int)] [.agg u xs] = some (.tup [], [.agg u (((((xs.set 5 (bD ((n % 10000 % 100) % 10))).set 4 (bD ((n % 10000 % 100) / 10))).set 3 (bD ((n % 10000 / 100) % 10))).set 2 (bD ((n % 10000 / 100) / 10))).set 1 (bD (n / 10000)))]) := by
 have cv : cvI .u32 (.int .u64 (n : Int)) = some (.int .u32 (n : Int)) := by rw [cvI, wrap_u32 (by omega) (by omega)]
 have ok : (List.all [] V.okE) = true := rfl
 rw [f87_eq, f87_r0]
 refine (bstep (show lnL (V.weak (.win 0 [] 1 5 5)) = some (.int .i64 5) from rfl) _).trans ?_
 refine (f87_l0_eq ..).trans ?_
 simp only [f87_r1, f87_r12, f87_r13, f87_r14, f87_r15, f87_r16, f87_r19, f87_r20, f87_r21, f87_r22, f87_r24, f87_r25]
 (repeat' with_reducible first | refine (ite_T _ _).trans ?_ | refine (ite_F _ _).trans ?_ | refine (jn_eq _ _).trans ?_ | refine (bstep (by first | rfl | (simp (disch := first | assumption | omega | (with_reducible rfl) | (simp only [go_sem]; done) | (simp only [go_sem]; omega) | fail) only [↓reduceIte, ↓jn_eq, Nat.reduceAdd, go_sem, Bool.not_true, Bool.not_false, cv, q100, q10000, r100, r10000, m2, ok]; rfl)) _).trans ?_ | refine (if_pos (by first | rfl | (simp (disch := first | assumption | omega | (with_reducible rfl) | (simp only [go_sem]; done) | (simp only [go_sem]; omega) | fail) only [↓reduceIte, ↓jn_eq, Nat.reduceAdd, go_sem, Bool.not_true, Bool.not_false, cv, q100, q10000, r100, r10000, m2, ok]; done))).trans ?_ | refine (ite_dec (by first | assumption | omega | (simp (disch := first | assumption | omega | (with_reducible rfl) | (simp only [go_sem]; done) | (simp only [go_sem]; omega) | fail) only [↓reduceIte, ↓jn_eq, Nat.reduceAdd, go_sem, Bool.not_true, Bool.not_false, cv, q100, q10000, r100, r10000, m2, ok]; done) | (simp (disch := first | assumption | omega | (with_reducible rfl) | (simp only [go_sem]; done) | (simp only [go_sem]; omega) | fail) only [↓reduceIte, ↓jn_eq, Nat.reduceAdd, go_sem, Bool.not_true, Bool.not_false, cv, q100, q10000, r100, r10000, m2, ok]; omega)) _ _).trans ?_ | refine (ite_ndec (by first | assumption | omega | (simp (disch := first | assumption | omega | (with_reducible rfl) | (simp only [go_sem]; done) | (simp only [go_sem]; omega) | fail) only [↓reduceIte, ↓jn_eq, Nat.reduceAdd, go_sem, Bool.not_true, Bool.not_false, cv, q100, q10000, r100, r10000, m2, ok]; done) | (simp (disch := first | assumption | omega | (with_reducible rfl) | (simp only [go_sem]; done) | (simp only [go_sem]; omega) | fail) only [↓reduceIte, ↓jn_eq, Nat.reduceAdd, go_sem, Bool.not_true, Bool.not_false, cv, q100, q10000, r100, r10000, m2, ok]; omega)) _ _).trans ?_ | fail)
 refine (r17_am (m := 5) (k := n % 10000 % 100) (by first | exact hx | (simp only [List.length_set]; exact hx)) (by omega) (by omega) (by omega) (by omega) _).trans ?_
 (repeat' with_reducible first | refine (ite_T _ _).trans ?_ | refine (ite_F _ _).trans ?_ | refine (jn_eq _ _).trans ?_ | refine (bstep (by first | rfl | (simp (disch := first | assumption | omega | (with_reducible rfl) | (simp only [go_sem]; done) | (simp only [go_sem]; omega) | fail) only [↓reduceIte, ↓jn_eq, Nat.reduceAdd, go_sem, Bool.not_true, Bool.not_false, cv, q100, q10000, r100, r10000, m2, ok]; rfl)) _).trans ?_ | refine (if_pos (by first | rfl | (simp (disch := first | assumption | omega | (with_reducible rfl) | (simp only [go_sem]; done) | (simp only [go_sem]; omega) | fail) only [↓reduceIte, ↓jn_eq, Nat.reduceAdd, go_sem, Bool.not_true, Bool.not_false, cv, q100, q10000, r100, r10000, m2, ok]; done))).trans ?_ | refine (ite_dec (by first | assumption | omega | (simp (disch := first | assumption | omega | (with_reducible rfl) | (simp only [go_sem]; done) | (simp only [go_sem]; omega) | fail) only [↓reduceIte, ↓jn_eq, Nat.reduceAdd, go_sem, Bool.not_true, Bool.not_false, cv, q100, q10000, r100, r10000, m2, ok]; done) | (simp (disch := first | assumption | omega | (with_reducible rfl) | (simp only [go_sem]; done) | (simp only [go_sem]; omega) | fail) only [↓reduceIte, ↓jn_eq, Nat.reduceAdd, go_sem, Bool.not_true, Bool.not_false, cv, q100, q10000, r100, r10000, m2, ok]; omega)) _ _).trans ?_ | refine (ite_ndec (by first | assumption | omega | (simp (disch := first | assumption | omega | (with_reducible rfl) | (simp only [go_sem]; done) | (simp only [go_sem]; omega) | fail) only [↓reduceIte, ↓jn_eq, Nat.reduceAdd, go_sem, Bool.not_true, Bool.not_false, cv, q100, q10000, r100, r10000, m2, ok]; done) | (simp (disch := first | assumption | omega | (with_reducible rfl) | (simp only [go_sem]; done) | (simp only [go_sem]; omega) | fail) only [↓reduceIte, ↓jn_eq, Nat.reduceAdd, go_sem, Bool.not_true, Bool.not_false, cv, q100, q10000, r100, r10000, m2, ok]; omega)) _ _).trans ?_ | fail)
 refine (r18_am (m := 5) (k := n % 10000 / 100) (by first | exact hx | (simp only [List.length_set]; exact hx)) (by omega) (by omega) (by omega) (by omega) _).trans ?_
 (repeat' with_reducible first | refine (ite_T _ _).trans ?_ | refine (ite_F _ _).trans ?_ | refine (jn_eq _ _).trans ?_ | refine (bstep (by first | rfl | (simp (disch := first | assumption | omega | (with_reducible rfl) | (simp only [go_sem]; done) | (simp only [go_sem]; omega) | fail) only [↓reduceIte, ↓jn_eq, Nat.reduceAdd, go_sem, Bool.not_true, Bool.not_false, cv, q100, q10000, r100, r10000, m2, ok]; rfl)) _).trans ?_ | refine (if_pos (by first | rfl | (simp (disch := first | assumption | omega | (with_reducible rfl) | (simp only [go_sem]; done) | (simp only [go_sem]; omega) | fail) only [↓reduceIte, ↓jn_eq, Nat.reduceAdd, go_sem, Bool.not_true, Bool.not_false, cv, q100, q10000, r100, r10000, m2, ok]; done))).trans ?_ | refine (ite_dec (by first | assumption | omega | (simp (disch := first | assumption | omega | (with_reducible rfl) | (simp only [go_sem]; done) | (simp only [go_sem]; omega) | fail) only [↓reduceIte, ↓jn_eq, Nat.reduceAdd, go_sem, Bool.not_true, Bool.not_false, cv, q100, q10000, r100, r10000, m2, ok]; done) | (simp (disch := first | assumption | omega | (with_reducible rfl) | (simp only [go_sem]; done) | (simp only [go_sem]; omega) | fail) only [↓reduceIte, ↓jn_eq, Nat.reduceAdd, go_sem, Bool.not_true, Bool.not_false, cv, q100, q10000, r100, r10000, m2, ok]; omega)) _ _).trans ?_ | refine (ite_ndec (by first | assumption | omega | (simp (disch := first | assumption | omega | (with_reducible rfl) | (simp only [go_sem]; done) | (simp only [go_sem]; omega) | fail) only [↓reduceIte, ↓jn_eq, Nat.reduceAdd, go_sem, Bool.not_true, Bool.not_false, cv, q100, q10000, r100, r10000, m2, ok]; done) | (simp (disch := first | assumption | omega | (with_reducible rfl) | (simp only [go_sem]; done) | (simp only [go_sem]; omega) | fail) only [↓reduceIte, ↓jn_eq, Nat.reduceAdd, go_sem, Bool.not_true, Bool.not_false, cv, q100, q10000, r100, r10000, m2, ok]; omega)) _ _).trans ?_ | fail)
 refine (r26_am (k := n / 10000) (by first | exact hx | (simp only [List.length_set]; exact hx)) (by omega) (by omega) _).trans ?_
 (repeat' with_reducible first | refine (ite_T _ _).trans ?_ | refine (ite_F _ _).trans ?_ | refine (jn_eq _ _).trans ?_ | refine (bstep (by first | rfl | (simp (disch := first | assumption | omega | (with_reducible rfl) | (simp only [go_sem]; done) | (simp only [go_sem]; omega) | fail) only [↓reduceIte, ↓jn_eq, Nat.reduceAdd, go_sem, Bool.not_true, Bool.not_false, cv, q100, q10000, r100, r10000, m2, ok]; rfl)) _).trans ?_ | refine (if_pos (by first | rfl | (simp (disch := first | assumption | omega | (with_reducible rfl) | (simp only [go_sem]; done) | (simp only [go_sem]; omega) | fail) only [↓reduceIte, ↓jn_eq, Nat.reduceAdd, go_sem, Bool.not_true, Bool.not_false, cv, q100, q10000, r100, r10000, m2, ok]; done))).trans ?_ | refine (ite_dec (by first | assumption | omega | (simp (disch := first | assumption | omega | (with_reducible rfl) | (simp only [go_sem]; done) | (simp only [go_sem]; omega) | fail) only [↓reduceIte, ↓jn_eq, Nat.reduceAdd, go_sem, Bool.not_true, Bool.not_false, cv, q100, q10000, r100, r10000, m2, ok]; done) | (simp (disch := first | assumption | omega | (with_reducible rfl) | (simp only [go_sem]; done) | (simp only [go_sem]; omega) | fail) only [↓reduceIte, ↓jn_eq, Nat.reduceAdd, go_sem, Bool.not_true, Bool.not_false, cv, q100, q10000, r100, r10000, m2, ok]; omega)) _ _).trans ?_ | refine (ite_ndec (by first | assumption | omega | (simp (disch := first | assumption | omega | (with_reducible rfl) | (simp only [go_sem]; done) | (simp only [go_sem]; omega) | fail) only [↓reduceIte, ↓jn_eq, Nat.reduceAdd, go_sem, Bool.not_true, Bool.not_false, cv, q100, q10000, r100, r10000, m2, ok]; done) | (simp (disch := first | assumption | omega | (with_reducible rfl) | (simp only [go_sem]; done) | (simp only [go_sem]; omega) | fail) only [↓reduceIte, ↓jn_eq, Nat.reduceAdd, go_sem, Bool.not_true, Bool.not_false, cv, q100, q10000, r100, r10000, m2, ok]; omega)) _ _).trans ?_ | fail)
 rfl
theorem fb6 {n : Nat} (h1 : 100000 ≤ n) (h2 : n < 1000000) {u : TypeId} {xs : List V} (hx : xs.length = 24) : Cl 87 [.win 0 [] 1 6 5, .int .u64 (n : Int)] [.agg u xs] = some (.tup [], [.agg u ((((((xs.set 6 (bD ((n % 10000 % 100) % 10))).set 5 (bD ((n % 10000 % 100) / 10))).set 4 (bD ((n % 10000 / 100) % 10))).set 3 (bD ((n % 10000 / 100) / 10))).set 2 (bD (((n / 10000) % 100) % 10))).set 1 (bD (((n / 10000) % 100) / 10)))]) := by
 have cv : cvI .u32 (.int .u64 (n : Int)) = some (.int .u32 (n : Int)) := by rw [cvI, wrap_u32 (by omega) (by omega)]
 have ok : (List.all [] V.okE) = true := rfl
 rw [f87_eq, f87_r0]
 refine (bstep (show lnL (V.weak (.win 0 [] 1 6 5)) = some (.int .i64 6) from rfl) _).trans ?_
 refine (f87_l0_eq ..).trans ?_
 simp only [f87_r1, f87_r12, f87_r13, f87_r14, f87_r15, f87_r16, f87_r19, f87_r20, f87_r21, f87_r22, f87_r24, f87_r25]
 (repeat' with_reducible first | refine (ite_T _ _).trans ?_ | refine (ite_F _ _).trans ?_ | refine (jn_eq _ _).trans ?_ | refine (bstep (by first | rfl | (simp (disch := first | assumption | omega | (with_reducible rfl) | (simp only [go_sem]; done) | (simp only [go_sem]; omega) | fail) only [↓reduceIte, ↓jn_eq, Nat.reduceAdd, go_sem, Bool.not_true, Bool.not_false, cv, q100, q10000, r100, r10000, m2, ok]; rfl)) _).trans ?_ | refine (if_pos (by first | rfl | (simp (disch := first | assumption | omega | (with_reducible rfl) | (simp only [go_sem]; done) | (simp only [go_sem]; omega) | fail) only [↓reduceIte, ↓jn_eq, Nat.reduceAdd, go_sem, Bool.not_true, Bool.not_false, cv, q100, q10000, r100, r10000, m2, ok]; done))).trans ?_ | refine (ite_dec (by first | assumption | omega | (simp (disch := first | assumption | omega | (with_reducible rfl) | (simp only [go_sem]; done) | (simp only [go_sem]; omega) | fail) only [↓reduceIte, ↓jn_eq, Nat.reduceAdd, go_sem, Bool.not_true, Bool.not_false, cv, q100, q10000, r100, r10000, m2, ok]; done) | (simp (disch := first | assumption | omega | (with_reducible rfl) | (simp only [go_sem]; done) | (simp only [go_sem]; omega) | fail) only [↓reduceIte, ↓jn_eq, Nat.reduceAdd, go_sem, Bool.not_true, Bool.not_false, cv, q100, q10000, r100, r10000, m2, ok]; omega)) _ _).trans ?_ | refine (ite_ndec (by first | assumption | omega | (simp (disch := first | assumption | omega | (with_reducible rfl) | (simp only [go_sem]; done) | (simp only [go_sem]; omega) | fail) only [↓reduceIte, ↓jn_eq, Nat.reduceAdd, go_sem, Bool.not_true, Bool.not_false, cv, q100, q10000, r100, r10000, m2, ok]; done) | (simp (disch := first | assumption | omega | (with_reducible rfl) | (simp only [go_sem]; done) | (simp only [go_sem]; omega) | fail) only [↓reduceIte, ↓jn_eq, Nat.reduceAdd, go_sem, Bool.not_true, Bool.not_false, cv, q100, q10000, r100, r10000, m2, ok]; omega)) _ _).trans ?_ | fail)
 refine (r17_am (m := 6) (k := n % 10000 % 100) (by first | exact hx | (simp only [List.length_set]; exact hx)) (by omega) (by omega) (by omega) (by omega) _).trans ?_
 (repeat' with_reducible first | refine (ite_T _ _).trans ?_ | refine (ite_F _ _).trans ?_ | refine (jn_eq _ _).trans ?_ | refine (bstep (by first | rfl | (simp (disch := first | assumption | omega | (with_reducible rfl) | (simp only [go_sem]; done) | (simp only [go_sem]; omega) | fail) only [↓reduceIte, ↓jn_eq, Nat.reduceAdd, go_sem, Bool.not_true, Bool.not_false, cv, q100, q10000, r100, r10000, m2, ok]; rfl)) _).trans ?_ | refine (if_pos (by first | rfl | (simp (disch := first | assumption | omega | (with_reducible rfl) | (simp only [go_sem]; done) | (simp only [go_sem]; omega) | fail) only [↓reduceIte, ↓jn_eq, Nat.reduceAdd, go_sem, Bool.not_true, Bool.not_false, cv, q100, q10000, r100, r10000, m2, ok]; done))).trans ?_ | refine (ite_dec (by first | assumption | omega | (simp (disch := first | assumption | omega | (with_reducible rfl) | (simp only [go_sem]; done) | (simp only [go_sem]; omega) | fail) only [↓reduceIte, ↓jn_eq, Nat.reduceAdd, go_sem, Bool.not_true, Bool.not_false, cv, q100, q10000, r100, r10000, m2, ok]; done) | (simp (disch := first | assumption | omega | (with_reducible rfl) | (simp only [go_sem]; done) | (simp only [go_sem]; omega) | fail) only [↓reduceIte, ↓jn_eq, Nat.reduceAdd, go_sem, Bool.not_true, Bool.not_false, cv, q100, q10000, r100, r10000, m2, ok]; omega)) _ _).trans ?_ | refine (ite_ndec (by first | assumption | omega | (simp (disch := first | assumption | omega | (with_reducible rfl) | (simp only [go_sem]; done) | (simp only [go_sem]; omega) | fail) only [↓reduceIte, ↓jn_eq, Nat.reduceAdd, go_sem, Bool.not_true, Bool.not_false, cv, q100, q10000, r100, r10000, m2, ok]; done) | (simp (disch := first | assumption | omega | (with_reducible rfl) | (simp only [go_sem]; done) | (simp only [go_sem]; omega) | fail) only [↓reduceIte, ↓jn_eq, Nat.reduceAdd, go_sem, Bool.not_true, Bool.not_false, cv, q100, q10000, r100, r10000, m2, ok]; omega)) _ _).trans ?_ | fail)
 refine (r18_am (m := 6) (k := n % 10000 / 100) (by first | exact hx | (simp only [List.length_set]; exact hx)) (by omega) (by omega) (by omega) (by omega) _).trans ?_
 (repeat' with_reducible first | refine (ite_T _ _).trans ?_ | refine (ite_F _ _).trans ?_ | refine (jn_eq _ _).trans ?_ | refine (bstep (by first | rfl | (simp (disch := first | assumption | omega | (with_reducible rfl) | (simp only [go_sem]; done) | (simp only [go_sem]; omega) | fail) only [↓reduceIte, ↓jn_eq, Nat.reduceAdd, go_sem, Bool.not_true, Bool.not_false, cv, q100, q10000, r100, r10000, m2, ok]; rfl)) _).trans ?_ | refine (if_pos (by first | rfl | (simp (disch := first | assumption | omega | (with_reducible rfl) | (simp only [go_sem]; done) | (simp only [go_sem]; omega) | fail) only [↓reduceIte, ↓jn_eq, Nat.reduceAdd, go_sem, Bool.not_true, Bool.not_false, cv, q100, q10000, r100, r10000, m2, ok]; done))).trans ?_ | refine (ite_dec (by first | assumption | omega | (simp (disch := first | assumption | omega | (with_reducible rfl) | (simp only [go_sem]; done) | (simp only [go_sem]; omega) | fail) only [↓reduceIte, ↓jn_eq, Nat.reduceAdd, go_sem, Bool.not_true, Bool.not_false, cv, q100, q10000, r100, r10000, m2, ok]; done) | (simp (disch := first | assumption | omega | (with_reducible rfl) | (simp only [go_sem]; done) | (simp only [go_sem]; omega) | fail) only [↓reduceIte, ↓jn_eq, Nat.reduceAdd, go_sem, Bool.not_true, Bool.not_false, cv, q100, q10000, r100, r10000, m2, ok]; omega)) _ _).trans ?_ | refine (ite_ndec (by first | assumption | omega | (simp (disch := first | assumption | omega | (with_reducible rfl) | (simp only [go_sem]; done) | (simp only [go_sem]; omega) | fail) only [↓reduceIte, ↓jn_eq, Nat.reduceAdd, go_sem, Bool.not_true, Bool.not_false, cv, q100, q10000, r100, r10000, m2, ok]; done) | (simp (disch := first | assumption | omega | (with_reducible rfl) | (simp only [go_sem]; done) | (simp only [go_sem]; omega) | fail) only [↓reduceIte, ↓jn_eq, Nat.reduceAdd, go_sem, Bool.not_true, Bool.not_false, cv, q100, q10000, r100, r10000, m2, ok]; omega)) _ _).trans ?_ | fail)
 refine (r23_am (m := 2) (k := n / 10000 % 100) (by first | exact hx | (simp only [List.length_set]; exact hx)) (by omega) (by omega) (by omega) (by omega) _).trans ?_
 (repeat' with_reducible first | refine (ite_T _ _).trans ?_ | refine (ite_F _ _).trans ?_ | refine (jn_eq _ _).trans ?_ | refine (bstep (by first | rfl | (simp (disch := first | assumption | omega | (with_reducible rfl) | (simp only [go_sem]; done) | (simp only [go_sem]; omega) | fail) only [↓reduceIte, ↓jn_eq, Nat.reduceAdd, go_sem, Bool.not_true, Bool.not_false, cv, q100, q10000, r100, r10000, m2, ok]; rfl)) _).trans ?_ | refine (if_pos (by first | rfl | (simp (disch := first | assumption | omega | (with_reducible rfl) | (simp only [go_sem]; done) | (simp only [go_sem]; omega) | fail) only [↓reduceIte, ↓jn_eq, Nat.reduceAdd, go_sem, Bool.not_true, Bool.not_false, cv, q100, q10000, r100, r10000, m2, ok]; done))).trans ?_ | refine (ite_dec (by first | assumption | omega | (simp (disch := first | assumption | omega | (with_reducible rfl) | (simp only [go_sem]; done) | (simp only [go_sem]; omega) | fail) only [↓reduceIte, ↓jn_eq, Nat.reduceAdd, go_sem, Bool.not_true, Bool.not_false, cv, q100, q10000, r100, r10000, m2, ok]; done) | (simp (disch := first | assumption | omega | (with_reducible rfl) | (simp only [go_sem]; done) | (simp only [go_sem]; omega) | fail) only [↓reduceIte, ↓jn_eq, Nat.reduceAdd, go_sem, Bool.not_true, Bool.not_false, cv, q100, q10000, r100, r10000, m2, ok]; omega)) _ _).trans ?_ | refine (ite_ndec (by first | assumption | omega | (simp (disch := first | assumption | omega | (with_reducible rfl) | (simp only [go_sem]; done) | (simp only [go_sem]; omega) | fail) only [↓reduceIte, ↓jn_eq, Nat.reduceAdd, go_sem, Bool.not_true, Bool.not_false, cv, q100, q10000, r100, r10000, m2, ok]; done) | (simp (disch := first | assumption | omega | (with_reducible rfl) | (simp only [go_sem]; done) | (simp only [go_sem]; omega) | fail) only [↓reduceIte, ↓jn_eq, Nat.reduceAdd, go_sem, Bool.not_true, Bool.not_false, cv, q100, q10000, r100, r10000, m2, ok]; omega)) _ _).trans ?_ | fail)
 rfl
theorem fb7 {n : Nat} (h1 : 1000000 ≤ n) (h2 : n < 10000000) {u : TypeId} {xs : List V} (hx : xs.length = 24) : Cl 87 [.win 0 [] 1 7 5, .int .u64 (n : Int)] [.agg u xs] = some (.tup [], [.agg u (((((((xs.set 7 (bD ((n % 10000 % 100) % 10))).set 6 (bD ((n % 10000 % 100) / 10))).set 5 (bD ((n % 10000 / 100) % 10))).set 4 (bD ((n % 10000 / 100) / 10))).set 3 (bD (((n / 10000) % 100) % 10))).set 2 (bD (((n / 10000) % 100) / 10))).set 1 (bD (n / 10000 / 100)))]) := by
 have cv : cvI .u32 (.int .u64 (n : Int)) = some (.int .u32 (n : Int)) := by rw [cvI, wrap_u32 (by omega) (by omega)]
 have ok : (List.all [] V.okE) = true := rfl
 rw [f87_eq, f87_r0]
 refine (bstep (show lnL (V.weak (.win 0 [] 1 7 5)) = some (.int .i64 7) from rfl) _).trans ?_
 refine (f87_l0_eq ..).trans ?_
 simp only [f87_r1, f87_r12, f87_r13, f87_r14, f87_r15, f87_r16, f87_r19, f87_r20, f87_r21, f87_r22, f87_r24, f87_r25]
 (repeat' with_reducible first | refine (ite_T _ _).trans ?_ | refine (ite_F _ _).trans ?_ | refine (jn_eq _ _).trans ?_ | refine (bstep (by first | rfl | (simp (disch := first | assumption | omega | (with_reducible rfl) | (simp only [go_sem]; done) | (simp only [go_sem]; omega) | fail) only [↓reduceIte, ↓jn_eq, Nat.reduceAdd, go_sem, Bool.not_true, Bool.not_false, cv, q100, q10000, r100, r10000, m2, ok]; rfl)) _).trans ?_ | refine (if_pos (by first | rfl | (simp (disch := first | assumption | omega | (with_reducible rfl) | (simp only [go_sem]; done) | (simp only [go_sem]; omega) | fail) only [↓reduceIte, ↓jn_eq, Nat.reduceAdd, go_sem, Bool.not_true, Bool.not_false, cv, q100, q10000, r100, r10000, m2, ok]; done))).trans ?_ | refine (ite_dec (by first | assumption | omega | (simp (disch := first | assumption | omega | (with_reducible rfl) | (simp only [go_sem]; done) | (simp only [go_sem]; omega) | fail) only [↓reduceIte, ↓jn_eq, Nat.reduceAdd, go_sem, Bool.not_true, Bool.not_false, cv, q100, q10000, r100, r10000, m2, ok]; done) | (simp (disch := first | assumption | omega | (with_reducible rfl) | (simp only [go_sem]; done) | (simp only [go_sem]; omega) | fail) only [↓reduceIte, ↓jn_eq, Nat.reduceAdd, go_sem, Bool.not_true, Bool.not_false, cv, q100, q10000, r100, r10000, m2, ok]; omega)) _ _).trans ?_ | refine (ite_ndec (by first | assumption | omega | (simp (disch := first | assumption | omega | (with_reducible rfl) | (simp only [go_sem]; done) | (simp only [go_sem]; omega) | fail) only [↓reduceIte, ↓jn_eq, Nat.reduceAdd, go_sem, Bool.not_true, Bool.not_false, cv, q100, q10000, r100, r10000, m2, ok]; done) | (simp (disch := first | assumption | omega | (with_reducible rfl) | (simp only [go_sem]; done) | (simp only [go_sem]; omega) | fail) only [↓reduceIte, ↓jn_eq, Nat.reduceAdd, go_sem, Bool.not_true, Bool.not_false, cv, q100, q10000, r100, r10000, m2, ok]; omega)) _ _).trans ?_ | fail)
 refine (r17_am (m := 7) (k := n % 10000 % 100) (by first | exact hx | (simp only [List.length_set]; exact hx)) (by omega) (by omega) (by omega) (by omega) _).trans ?_
 (repeat' with_reducible first | refine (ite_T _ _).trans ?_ | refine (ite_F _ _).trans ?_ | refine (jn_eq _ _).trans ?_ | refine (bstep (by first | rfl | (simp (disch := first | assumption | omega | (with_reducible rfl) | (simp only [go_sem]; done) | (simp only [go_sem]; omega) | fail) only [↓reduceIte, ↓jn_eq, Nat.reduceAdd, go_sem, Bool.not_true, Bool.not_false, cv, q100, q10000, r100, r10000, m2, ok]; rfl)) _).trans ?_ | refine (if_pos (by first | rfl | (simp (disch := first | assumption | omega | (with_reducible rfl) | (simp only [go_sem]; done) | (simp only [go_sem]; omega) | fail) only [↓reduceIte, ↓jn_eq, Nat.reduceAdd, go_sem, Bool.not_true, Bool.not_false, cv, q100, q10000, r100, r10000, m2, ok]; done))).trans ?_ | refine (ite_dec (by first | assumption | omega | (simp (disch := first | assumption | omega | (with_reducible rfl) | (simp only [go_sem]; done) | (simp only [go_sem]; omega) | fail) only [↓reduceIte, ↓jn_eq, Nat.reduceAdd, go_sem, Bool.not_true, Bool.not_false, cv, q100, q10000, r100, r10000, m2, ok]; done) | (simp (disch := first | assumption | omega | (with_reducible rfl) | (simp only [go_sem]; done) | (simp only [go_sem]; omega) | fail) only [↓reduceIte, ↓jn_eq, Nat.reduceAdd, go_sem, Bool.not_true, Bool.not_false, cv, q100, q10000, r100, r10000, m2, ok]; omega)) _ _).trans ?_ | refine (ite_ndec (by first | assumption | omega | (simp (disch := first | assumption | omega | (with_reducible rfl) | (simp only [go_sem]; done) | (simp only [go_sem]; omega) | fail) only [↓reduceIte, ↓jn_eq, Nat.reduceAdd, go_sem, Bool.not_true, Bool.not_false, cv, q100, q10000, r100, r10000, m2, ok]; done) | (simp (disch := first | assumption | omega | (with_reducible rfl) | (simp only [go_sem]; done) | (simp only [go_sem]; omega) | fail) only [↓reduceIte, ↓jn_eq, Nat.reduceAdd, go_sem, Bool.not_true, Bool.not_false, cv, q100, q10000, r100, r10000, m2, ok]; omega)) _ _).trans ?_ | fail)
 refine (r18_am (m := 7) (k := n % 10000 / 100) (by first | exact hx | (simp only [List.length_set]; exact hx)) (by omega) (by omega) (by omega) (by omega) _).trans ?_
 (repeat' with_reducible first | refine (ite_T _ _).trans ?_ | refine (ite_F _ _).trans ?_ | refine (jn_eq _ _).trans ?_ | refine (bstep (by first | rfl | (simp (disch := first | assumption | omega | (with_reducible rfl) | (simp only [go_sem]; done) | (simp only [go_sem]; omega) | fail) only [↓reduceIte, ↓jn_eq, Nat.reduceAdd, go_sem, Bool.not_true, Bool.not_false, cv, q100, q10000, r100, r10000, m2, ok]; rfl)) _).trans ?_ | refine (if_pos (by first | rfl | (simp (disch := first | assumption | omega | (with_reducible rfl) | (simp only [go_sem]; done) | (simp only [go_sem]; omega) | fail) only [↓reduceIte, ↓jn_eq, Nat.reduceAdd, go_sem, Bool.not_true, Bool.not_false, cv, q100, q10000, r100, r10000, m2, ok]; done))).trans ?_ | refine (ite_dec (by first | assumption | omega | (simp (disch := first | assumption | omega | (with_reducible rfl) | (simp only [go_sem]; done) | (simp only [go_sem]; omega) | fail) only [↓reduceIte, ↓jn_eq, Nat.reduceAdd, go_sem, Bool.not_true, Bool.not_false, cv, q100, q10000, r100, r10000, m2, ok]; done) | (simp (disch := first | assumption | omega | (with_reducible rfl) | (simp only [go_sem]; done) | (simp only [go_sem]; omega) | fail) only [↓reduceIte, ↓jn_eq, Nat.reduceAdd, go_sem, Bool.not_true, Bool.not_false, cv, q100, q10000, r100, r10000, m2, ok]; omega)) _ _).trans ?_ | refine (ite_ndec (by first | assumption | omega | (simp (disch := first | assumption | omega | (with_reducible rfl) | (simp only [go_sem]; done) | (simp only [go_sem]; omega) | fail) only [↓reduceIte, ↓jn_eq, Nat.reduceAdd, go_sem, Bool.not_true, Bool.not_false, cv, q100, q10000, r100, r10000, m2, ok]; done) | (simp (disch := first | assumption | omega | (with_reducible rfl) | (simp only [go_sem]; done) | (simp only [go_sem]; omega) | fail) only [↓reduceIte, ↓jn_eq, Nat.reduceAdd, go_sem, Bool.not_true, Bool.not_false, cv, q100, q10000, r100, r10000, m2, ok]; omega)) _ _).trans ?_ | fail)
 refine (r23_am (m := 3) (k := n / 10000 % 100) (by first | exact hx | (simp only [List.length_set]; exact hx)) (by omega) (by omega) (by omega) (by omega) _).trans ?_
 (repeat' with_reducible first | refine (ite_T _ _).trans ?_ | refine (ite_F _ _).trans ?_ | refine (jn_eq _ _).trans ?_ | refine (bstep (by first | rfl | (simp (disch := first | assumption | omega | (with_reducible rfl) | (simp only [go_sem]; done) | (simp only [go_sem]; omega) | fail) only [↓reduceIte, ↓jn_eq, Nat.reduceAdd, go_sem, Bool.not_true, Bool.not_false, cv, q100, q10000, r100, r10000, m2, ok]; rfl)) _).trans ?_ | refine (if_pos (by first | rfl | (simp (disch := first | assumption | omega | (with_reducible rfl) | (simp only [go_sem]; done) | (simp only [go_sem]; omega) | fail) only [↓reduceIte, ↓jn_eq, Nat.reduceAdd, go_sem, Bool.not_true, Bool.not_false, cv, q100, q10000, r100, r10000, m2, ok]; done))).trans ?_ | refine (ite_dec (by first | assumption | omega | (simp (disch := first | assumption | omega | (with_reducible rfl) | (simp only [go_sem]; done) | (simp only [go_sem]; omega) | fail) only [↓reduceIte, ↓jn_eq, Nat.reduceAdd, go_sem, Bool.not_true, Bool.not_false, cv, q100, q10000, r100, r10000, m2, ok]; done) | (simp (disch := first | assumption | omega | (with_reducible rfl) | (simp only [go_sem]; done) | (simp only [go_sem]; omega) | fail) only [↓reduceIte, ↓jn_eq, Nat.reduceAdd, go_sem, Bool.not_true, Bool.not_false, cv, q100, q10000, r100, r10000, m2, ok]; omega)) _ _).trans ?_ | refine (ite_ndec (by first | assumption | omega | (simp (disch := first | assumption | omega | (with_reducible rfl) | (simp only [go_sem]; done) | (simp only [go_sem]; omega) | fail) only [↓reduceIte, ↓jn_eq, Nat.reduceAdd, go_sem, Bool.not_true, Bool.not_false, cv, q100, q10000, r100, r10000, m2, ok]; done) | (simp (disch := first | assumption | omega | (with_reducible rfl) | (simp only [go_sem]; done) | (simp only [go_sem]; omega) | fail) only [↓reduceIte, ↓jn_eq, Nat.reduceAdd, go_sem, Bool.not_true, Bool.not_false, cv, q100, q10000, r100, r10000, m2, ok]; omega)) _ _).trans ?_ | fail)
 refine (r26_am (k := n / 10000 / 100) (by first | exact hx | (simp only [List.length_set]; exact hx)) (by omega) (by omega) _).trans ?_
 (repeat' with_reducible first | refine (ite_T _ _).trans ?_ | refine (ite_F _ _).trans ?_ | refine (jn_eq _ _).trans ?_ | refine (bstep (by first | rfl | (simp (disch := first | assumption | omega | (with_reducible rfl) | (simp only [go_sem]; done) | (simp only [go_sem]; omega) | fail) only [↓reduceIte, ↓jn_eq, Nat.reduceAdd, go_sem, Bool.not_true, Bool.not_false, cv, q100, q10000, r100, r10000, m2, ok]; rfl)) _).trans ?_ | refine (if_pos (by first | rfl | (simp (disch := first | assumption | omega | (with_reducible rfl) | (simp only [go_sem]; done) | (simp only [go_sem]; omega) | fail) only [↓reduceIte, ↓jn_eq, Nat.reduceAdd, go_sem, Bool.not_true, Bool.not_false, cv, q100, q10000, r100, r10000, m2, ok]; done))).trans ?_ | refine (ite_dec (by first | assumption | omega | (simp (disch := first | assumption | omega | (with_reducible rfl) | (simp only [go_sem]; done) | (simp only [go_sem]; omega) | fail) only [↓reduceIte, ↓jn_eq, Nat.reduceAdd, go_sem, Bool.not_true, Bool.not_false, cv, q100, q10000, r100, r10000, m2, ok]; done) | (simp (disch := first | assumption | omega | (with_reducible rfl) | (simp only [go_sem]; done) | (simp only [go_sem]; omega) | fail) only [↓reduceIte, ↓jn_eq, Nat.reduceAdd, go_sem, Bool.not_true, Bool.not_false, cv, q100, q10000, r100, r10000, m2, ok]; omega)) _ _).trans ?_ | refine (ite_ndec (by first | assumption | omega | (simp (disch := first | assumption | omega | (with_reducible rfl) | (simp only [go_sem]; done) | (simp only [go_sem]; omega) | fail) only [↓reduceIte, ↓jn_eq, Nat.reduceAdd, go_sem, Bool.not_true, Bool.not_false, cv, q100, q10000, r100, r10000, m2, ok]; done) | (simp (disch := first | assumption | omega | (with_reducible rfl) | (simp only [go_sem]; done) | (simp only [go_sem]; omega) | fail) only [↓reduceIte, ↓jn_eq, Nat.reduceAdd, go_sem, Bool.not_true, Bool.not_false, cv, q100, q10000, r100, r10000, m2, ok]; omega)) _ _).trans ?_ | fail)
 rfl
end Go.Proofs.YtaghnpjlhmgioaaDoor
end

section
set_option linter.unusedVariables false
set_option linter.unusedSimpArgs false
set_option linter.unusedSectionVars false
set_option maxRecDepth 100000
namespace Go.Proofs.YtaghnpjlhmgioaaDoor
open Go AM
theorem cons2 {a b : UInt8} {l m : List UInt8} (h : a = b) (h2 : l = m) : a :: l = b :: m := by rw [h, h2]
theorem cvT_of {h : List V} {x : V} {s : List UInt8} (hx : ∀ z, x ≠ .str z) (hc : content h x = some (bytesOf s)) : cvT h x = some (.str s) := by
 unfold cvT
 split
 · exact absurd rfl (hx _)
 · simp only [hc, Option.bind_some, bytesTo_bytes, Option.map_some]
abbrev z24 : List V := List.replicate 24 (V.int .u8 0)
theorem dec3 {n : Nat} (h1 : 100 ≤ n) (h2 : n < 1000) : [dg (n / 100), dg (n % 100 / 10), dg (n % 100 % 10)] = decB n := by
 simp only [decB, decF]
 rw [if_neg (by omega), if_neg (by omega), if_pos (by omega)]
 exact cons2 (congrArg dg (by omega)) (cons2 (congrArg dg (by omega)) (cons2 (congrArg dg (by omega)) (rfl)))
theorem fmt3 {n : Nat} (h1 : 100 ≤ n) (h2 : n < 1000) (h3 : n ≤ 1048576) : Cl 67 [.int .i64 (n : Int), .int .i64 10] [] = some (.str (decB n), []) := by
 have nd := nd_am (n := n) (by omega) h3
 rw [show ndC n = 3 by simp only [ndC]; (repeat' split) <;> omega] at nd
 have fb := fb3 h1 h2 (u := 109) (xs := z24) rfl
 have ct : cvT [.agg 109 (((z24.set 3 (bD ((n % 100) % 10))).set 2 (bD ((n % 100) / 10))).set 1 (bD (n / 100)))] (.win 0 [] 1 3 5) = some (.str (decB n)) := by
  rw [← dec3 h1 h2]
  exact cvT_of (fun z h => by cases h) rfl
 have sl : slA 109 109 24 5 (.ref 0 [] 109) (some (.int .i64 1)) (some (.int .i64 4)) none = some (.win 0 [] 1 3 5) := rfl
 have sl2 : slA 109 109 24 5 (.ref 0 [] 109) (some (.int .i64 1)) (some (.int .i64 (1 + ((3 : Nat) : Int)))) none = some (.win 0 [] 1 3 5) := rfl
 have ad : bin .add (.int .i64 1) (.int .i64 ((3 : Nat) : Int)) = some (.int .i64 4) := rfl
 have cv : cvI .u64 (.int .i64 (n : Int)) = some (.int .u64 (n : Int)) := cvI_u64 (by omega) (by omega)
 rw [f67_eq]
 generalize (((z24.set 3 (bD ((n % 100) % 10))).set 2 (bD ((n % 100) / 10))).set 1 (bD (n / 100))) = ys at *
 generalize decB n = s at *
 (repeat' with_reducible first | refine (ite_T _ _).trans ?_ | refine (ite_F _ _).trans ?_ | refine (jn_eq _ _).trans ?_ | refine (bstep (by first | rfl | (simp (disch := first | assumption | omega | (with_reducible rfl) | (simp only [go_sem]; done) | (simp only [go_sem]; omega) | fail) only [↓reduceIte, ↓jn_eq, Nat.reduceAdd, go_sem, Bool.not_true, Bool.not_false, cv]; rfl)) _).trans ?_ | refine (if_pos (by first | rfl | (simp (disch := first | assumption | omega | (with_reducible rfl) | (simp only [go_sem]; done) | (simp only [go_sem]; omega) | fail) only [↓reduceIte, ↓jn_eq, Nat.reduceAdd, go_sem, Bool.not_true, Bool.not_false, cv]; done))).trans ?_ | refine (ite_dec (by first | assumption | omega | (simp (disch := first | assumption | omega | (with_reducible rfl) | (simp only [go_sem]; done) | (simp only [go_sem]; omega) | fail) only [↓reduceIte, ↓jn_eq, Nat.reduceAdd, go_sem, Bool.not_true, Bool.not_false, cv]; done) | (simp (disch := first | assumption | omega | (with_reducible rfl) | (simp only [go_sem]; done) | (simp only [go_sem]; omega) | fail) only [↓reduceIte, ↓jn_eq, Nat.reduceAdd, go_sem, Bool.not_true, Bool.not_false, cv]; omega)) _ _).trans ?_ | refine (ite_ndec (by first | assumption | omega | (simp (disch := first | assumption | omega | (with_reducible rfl) | (simp only [go_sem]; done) | (simp only [go_sem]; omega) | fail) only [↓reduceIte, ↓jn_eq, Nat.reduceAdd, go_sem, Bool.not_true, Bool.not_false, cv]; done) | (simp (disch := first | assumption | omega | (with_reducible rfl) | (simp only [go_sem]; done) | (simp only [go_sem]; omega) | fail) only [↓reduceIte, ↓jn_eq, Nat.reduceAdd, go_sem, Bool.not_true, Bool.not_false, cv]; omega)) _ _).trans ?_ | fail)
 refine (bstep nd _).trans ?_
 refine (bstep ad _).trans ?_
 refine (bstep sl _).trans ?_
 refine (bstep fb _).trans ?_
 (repeat' with_reducible first | refine (ite_T _ _).trans ?_ | refine (ite_F _ _).trans ?_ | refine (jn_eq _ _).trans ?_ | refine (bstep (by first | rfl | (simp (disch := first | assumption | omega | (with_reducible rfl) | (simp only [go_sem]; done) | (simp only [go_sem]; omega) | fail) only [↓reduceIte, ↓jn_eq, Nat.reduceAdd, go_sem, Bool.not_true, Bool.not_false]; rfl)) _).trans ?_ | refine (if_pos (by first | rfl | (simp (disch := first | assumption | omega | (with_reducible rfl) | (simp only [go_sem]; done) | (simp only [go_sem]; omega) | fail) only [↓reduceIte, ↓jn_eq, Nat.reduceAdd, go_sem, Bool.not_true, Bool.not_false]; done))).trans ?_ | refine (ite_dec (by first | assumption | omega | (simp (disch := first | assumption | omega | (with_reducible rfl) | (simp only [go_sem]; done) | (simp only [go_sem]; omega) | fail) only [↓reduceIte, ↓jn_eq, Nat.reduceAdd, go_sem, Bool.not_true, Bool.not_false]; done) | (simp (disch := first | assumption | omega | (with_reducible rfl) | (simp only [go_sem]; done) | (simp only [go_sem]; omega) | fail) only [↓reduceIte, ↓jn_eq, Nat.reduceAdd, go_sem, Bool.not_true, Bool.not_false]; omega)) _ _).trans ?_ | refine (ite_ndec (by first | assumption | omega | (simp (disch := first | assumption | omega | (with_reducible rfl) | (simp only [go_sem]; done) | (simp only [go_sem]; omega) | fail) only [↓reduceIte, ↓jn_eq, Nat.reduceAdd, go_sem, Bool.not_true, Bool.not_false]; done) | (simp (disch := first | assumption | omega | (with_reducible rfl) | (simp only [go_sem]; done) | (simp only [go_sem]; omega) | fail) only [↓reduceIte, ↓jn_eq, Nat.reduceAdd, go_sem, Bool.not_true, Bool.not_false]; omega)) _ _).trans ?_ | fail)
 refine (bstep sl2 _).trans ?_
 refine (bstep ct _).trans ?_
 rfl
theorem dec4 {n : Nat} (h1 : 1000 ≤ n) (h2 : n < 10000) : [dg (n % 10000 / 100 / 10), dg (n % 10000 / 100 % 10), dg (n % 10000 % 100 / 10), dg (n % 10000 % 100 % 10)] = decB n := by
 simp only [decB, decF]
 rw [if_neg (by omega), if_neg (by omega), if_neg (by omega), if_pos (by omega)]
 exact cons2 (congrArg dg (by omega)) (cons2 (congrArg dg (by omega)) (cons2 (congrArg dg (by omega)) (cons2 (congrArg dg (by omega)) (rfl))))
theorem fmt4 {n : Nat} (h1 : 1000 ≤ n) (h2 : n < 10000) (h3 : n ≤ 1048576) : Cl 67 [.int .i64 (n : Int), .int .i64 10] [] = some (.str (decB n), []) := by
 have nd := nd_am (n := n) (by omega) h3
 rw [show ndC n = 4 by simp only [ndC]; (repeat' split) <;> omega] at nd
 have fb := fb4 h1 h2 (u := 109) (xs := z24) rfl
 have ct : cvT [.agg 109 ((((z24.set 4 (bD ((n % 10000 % 100) % 10))).set 3 (bD ((n % 10000 % 100) / 10))).set 2 (bD ((n % 10000 / 100) % 10))).set 1 (bD ((n % 10000 / 100) / 10)))] (.win 0 [] 1 4 5) = some (.str (decB n)) := by
  rw [← dec4 h1 h2]
  exact cvT_of (fun z h => by cases h) rfl
 have sl : slA 109 109 24 5 (.ref 0 [] 109) (some (.int .i64 1)) (some (.int .i64 5)) none = some (.win 0 [] 1 4 5) := rfl
 have sl2 : slA 109 109 24 5 (.ref 0 [] 109) (some (.int .i64 1)) (some (.int .i64 (1 + ((4 : Nat) : Int)))) none = some (.win 0 [] 1 4 5) := rfl
 have ad : bin .add (.int .i64 1) (.int .i64 ((4 : Nat) : Int)) = some (.int .i64 5) := rfl
 have cv : cvI .u64 (.int .i64 (n : Int)) = some (.int .u64 (n : Int)) := cvI_u64 (by omega) (by omega)
 rw [f67_eq]
 generalize ((((z24.set 4 (bD ((n % 10000 % 100) % 10))).set 3 (bD ((n % 10000 % 100) / 10))).set 2 (bD ((n % 10000 / 100) % 10))).set 1 (bD ((n % 10000 / 100) / 10))) = ys at *
 generalize decB n = s at *
 (repeat' with_reducible first | refine (ite_T _ _).trans ?_ | refine (ite_F _ _).trans ?_ | refine (jn_eq _ _).trans ?_ | refine (bstep (by first | rfl | (simp (disch := first | assumption | omega | (with_reducible rfl) | (simp only [go_sem]; done) | (simp only [go_sem]; omega) | fail) only [↓reduceIte, ↓jn_eq, Nat.reduceAdd, go_sem, Bool.not_true, Bool.not_false, cv]; rfl)) _).trans ?_ | refine (if_pos (by first | rfl | (simp (disch := first | assumption | omega | (with_reducible rfl) | (simp only [go_sem]; done) | (simp only [go_sem]; omega) | fail) only [↓reduceIte, ↓jn_eq, Nat.reduceAdd, go_sem, Bool.not_true, Bool.not_false, cv]; done))).trans ?_ | refine (ite_dec (by first | assumption | omega | (simp (disch := first | assumption | omega | (with_reducible rfl) | (simp only [go_sem]; done) | (simp only [go_sem]; omega) | fail) only [↓reduceIte, ↓jn_eq, Nat.reduceAdd, go_sem, Bool.not_true, Bool.not_false, cv]; done) | (simp (disch := first | assumption | omega | (with_reducible rfl) | (simp only [go_sem]; done) | (simp only [go_sem]; omega) | fail) only [↓reduceIte, ↓jn_eq, Nat.reduceAdd, go_sem, Bool.not_true, Bool.not_false, cv]; omega)) _ _).trans ?_ | refine (ite_ndec (by first | assumption | omega | (simp (disch := first | assumption | omega | (with_reducible rfl) | (simp only [go_sem]; done) | (simp only [go_sem]; omega) | fail) only [↓reduceIte, ↓jn_eq, Nat.reduceAdd, go_sem, Bool.not_true, Bool.not_false, cv]; done) | (simp (disch := first | assumption | omega | (with_reducible rfl) | (simp only [go_sem]; done) | (simp only [go_sem]; omega) | fail) only [↓reduceIte, ↓jn_eq, Nat.reduceAdd, go_sem, Bool.not_true, Bool.not_false, cv]; omega)) _ _).trans ?_ | fail)
 refine (bstep nd _).trans ?_
 refine (bstep ad _).trans ?_
 refine (bstep sl _).trans ?_
 refine (bstep fb _).trans ?_
 (repeat' with_reducible first | refine (ite_T _ _).trans ?_ | refine (ite_F _ _).trans ?_ | refine (jn_eq _ _).trans ?_ | refine (bstep (by first | rfl | (simp (disch := first | assumption | omega | (with_reducible rfl) | (simp only [go_sem]; done) | (simp only [go_sem]; omega) | fail) only [↓reduceIte, ↓jn_eq, Nat.reduceAdd, go_sem, Bool.not_true, Bool.not_false]; rfl)) _).trans ?_ | refine (if_pos (by first | rfl | (simp (disch := first | assumption | omega | (with_reducible rfl) | (simp only [go_sem]; done) | (simp only [go_sem]; omega) | fail) only [↓reduceIte, ↓jn_eq, Nat.reduceAdd, go_sem, Bool.not_true, Bool.not_false]; done))).trans ?_ | refine (ite_dec (by first | assumption | omega | (simp (disch := first | assumption | omega | (with_reducible rfl) | (simp only [go_sem]; done) | (simp only [go_sem]; omega) | fail) only [↓reduceIte, ↓jn_eq, Nat.reduceAdd, go_sem, Bool.not_true, Bool.not_false]; done) | (simp (disch := first | assumption | omega | (with_reducible rfl) | (simp only [go_sem]; done) | (simp only [go_sem]; omega) | fail) only [↓reduceIte, ↓jn_eq, Nat.reduceAdd, go_sem, Bool.not_true, Bool.not_false]; omega)) _ _).trans ?_ | refine (ite_ndec (by first | assumption | omega | (simp (disch := first | assumption | omega | (with_reducible rfl) | (simp only [go_sem]; done) | (simp only [go_sem]; omega) | fail) only [↓reduceIte, ↓jn_eq, Nat.reduceAdd, go_sem, Bool.not_true, Bool.not_false]; done) | (simp (disch := first | assumption | omega | (with_reducible rfl) | (simp only [go_sem]; done) | (simp only [go_sem]; omega) | fail) only [↓reduceIte, ↓jn_eq, Nat.reduceAdd, go_sem, Bool.not_true, Bool.not_false]; omega)) _ _).trans ?_ | fail)
 refine (bstep sl2 _).trans ?_
 refine (bstep ct _).trans ?_
 rfl
theorem dec5 {n : Nat} (h1 : 10000 ≤ n) (h2 : n < 100000) : [dg (n / 10000), dg (n % 10000 / 100 / 10), dg (n % 10000 / 100 % 10), dg (n % 10000 % 100 / 10), dg (n % 10000 % 100 % 10)] = decB n := by
 simp only [decB, decF]
 rw [if_neg (by omega), if_neg (by omega), if_neg (by omega), if_neg (by omega), if_pos (by omega)]
 exact cons2 (congrArg dg (by omega)) (cons2 (congrArg dg (by omega)) (cons2 (congrArg dg (by omega)) (cons2 (congrArg dg (by omega)) (cons2 (congrArg dg (by omega)) (rfl)))))
theorem fmt5 {n : Nat} (h1 : 10000 ≤ n) (h2 : n < 100000) (h3 : n ≤ 1048576) : Cl 67 [.int .i64 (n : Int), .int .i64 10] [] = some (.str (decB n), []) := by
 have nd := nd_am (n := n) (by omega) h3
 rw [show ndC n = 5 by simp only [ndC]; (repeat' split) <;> omega] at nd
 have fb := fb5 h1 h2 (u := 109) (xs := z24) rfl
 have ct : cvT [.agg 109 (((((z24.set 5 (bD ((n % 10000 % 100) % 10))).set 4 (bD ((n % 10000 % 100) / 10))).set 3 (bD ((n % 10000 / 100) % 10))).set 2 (bD ((n % 10000 / 100) / 10))).set 1 (bD (n / 10000)))] (.win 0 [] 1 5 5) = some (.str (decB n)) := by
  rw [← dec5 h1 h2]
  exact cvT_of (fun z h => by cases h) rfl
 have sl : slA 109 109 24 5 (.ref 0 [] 109) (some (.int .i64 1)) (some (.int .i64 6)) none = some (.win 0 [] 1 5 5) := rfl
 have sl2 : slA 109 109 24 5 (.ref 0 [] 109) (some (.int .i64 1)) (some (.int .i64 (1 + ((5 : Nat) : Int)))) none = some (.win 0 [] 1 5 5) := rfl
 have ad : bin .add (.int .i64 1) (.int .i64 ((5 : Nat) : Int)) = some (.int .i64 6) := rfl
 have cv : cvI .u64 (.int .i64 (n : Int)) = some (.int .u64 (n : Int)) := cvI_u64 (by omega) (by omega)
 rw [f67_eq]
 generalize (((((z24.set 5 (bD ((n % 10000 % 100) % 10))).set 4 (bD ((n % 10000 % 100) / 10))).set 3 (bD ((n % 10000 / 100) % 10))).set 2 (bD ((n % 10000 / 100) / 10))).set 1 (bD (n / 10000))) = ys at *
 generalize decB n = s at *
 (repeat' with_reducible first | refine (ite_T _ _).trans ?_ | refine (ite_F _ _).trans ?_ | refine (jn_eq _ _).trans ?_ | refine (bstep (by first | rfl | (simp (disch := first | assumption | omega | (with_reducible rfl) | (simp only [go_sem]; done) | (simp only [go_sem]; omega) | fail) only [↓reduceIte, ↓jn_eq, Nat.reduceAdd, go_sem, Bool.not_true, Bool.not_false, cv]; rfl)) _).trans ?_ | refine (if_pos (by first | rfl | (simp (disch := first | assumption | omega | (with_reducible rfl) | (simp only [go_sem]; done) | (simp only [go_sem]; omega) | fail) only [↓reduceIte, ↓jn_eq, Nat.reduceAdd, go_sem, Bool.not_true, Bool.not_false, cv]; done))).trans ?_ | refine (ite_dec (by first | assumption | omega | (simp (disch := first | assumption | omega | (with_reducible rfl) | (simp only [go_sem]; done) | (simp only [go_sem]; omega) | fail) only [↓reduceIte, ↓jn_eq, Nat.reduceAdd, go_sem, Bool.not_true, Bool.not_false, cv]; done) | (simp (disch := first | assumption | omega | (with_reducible rfl) | (simp only [go_sem]; done) | (simp only [go_sem]; omega) | fail) only [↓reduceIte, ↓jn_eq, Nat.reduceAdd, go_sem, Bool.not_true, Bool.not_false, cv]; omega)) _ _).trans ?_ | refine (ite_ndec (by first | assumption | omega | (simp (disch := first | assumption | omega | (with_reducible rfl) | (simp only [go_sem]; done) | (simp only [go_sem]; omega) | fail) only [↓reduceIte, ↓jn_eq, Nat.reduceAdd, go_sem, Bool.not_true, Bool.not_false, cv]; done) | (simp (disch := first | assumption | omega | (with_reducible rfl) | (simp only [go_sem]; done) | (simp only [go_sem]; omega) | fail) only [↓reduceIte, ↓jn_eq, Nat.reduceAdd, go_sem, Bool.not_true, Bool.not_false, cv]; omega)) _ _).trans ?_ | fail)
 refine (bstep nd _).trans ?_
 refine (bstep ad _).trans ?_
 refine (bstep sl _).trans ?_
 refine (bstep fb _).trans ?_
 (repeat' with_reducible first | refine (ite_T _ _).trans ?_ | refine (ite_F _ _).trans ?_ | refine (jn_eq _ _).trans ?_ | refine (bstep (by first | rfl | (simp (disch := first | assumption | omega | (with_reducible rfl) | (simp only [go_sem]; done) | (simp only [go_sem]; omega) | fail) only [↓reduceIte, ↓jn_eq, Nat.reduceAdd, go_sem, Bool.not_true, Bool.not_false]; rfl)) _).trans ?_ | refine (if_pos (by first | rfl | (simp (disch := first | assumption | omega | (with_reducible rfl) | (simp only [go_sem]; done) | (simp only [go_sem]; omega) | fail) only [↓reduceIte, ↓jn_eq, Nat.reduceAdd, go_sem, Bool.not_true, Bool.not_false]; done))).trans ?_ | refine (ite_dec (by first | assumption | omega | (simp (disch := first | assumption | omega | (with_reducible rfl) | (simp only [go_sem]; done) | (simp only [go_sem]; omega) | fail) only [↓reduceIte, ↓jn_eq, Nat.reduceAdd, go_sem, Bool.not_true, Bool.not_false]; done) | (simp (disch := first | assumption | omega | (with_reducible rfl) | (simp only [go_sem]; done) | (simp only [go_sem]; omega) | fail) only [↓reduceIte, ↓jn_eq, Nat.reduceAdd, go_sem, Bool.not_true, Bool.not_false]; omega)) _ _).trans ?_ | refine (ite_ndec (by first | assumption | omega | (simp (disch := first | assumption | omega | (with_reducible rfl) | (simp only [go_sem]; done) | (simp only [go_sem]; omega) | fail) only [↓reduceIte, ↓jn_eq, Nat.reduceAdd, go_sem, Bool.not_true, Bool.not_false]; done) | (simp (disch := first | assumption | omega | (with_reducible rfl) | (simp only [go_sem]; done) | (simp only [go_sem]; omega) | fail) only [↓reduceIte, ↓jn_eq, Nat.reduceAdd, go_sem, Bool.not_true, Bool.not_false]; omega)) _ _).trans ?_ | fail)
 refine (bstep sl2 _).trans ?_
 refine (bstep ct _).trans ?_
 rfl
theorem dec6 {n : Nat} (h1 : 100000 ≤ n) (h2 : n < 1000000) : [dg (n / 10000 % 100 / 10), dg (n / 10000 % 100 % 10), dg (n % 10000 / 100 / 10), dg (n % 10000 / 100 % 10), dg (n % 10000 % 100 / 10), dg (n % 10000 % 100 % 10)] = decB n := by
 simp only [decB, decF]
 rw [if_neg (by omega), if_neg (by omega), if_neg (by omega), if_neg (by omega), if_neg (by omega), if_pos (by omega)]
 exact cons2 (congrArg dg (by omega)) (cons2 (congrArg dg (by omega)) (cons2 (congrArg dg (by omega)) (cons2 (congrArg dg (by omega)) (cons2 (congrArg dg (by omega)) (cons2 (congrArg dg (by omega)) (rfl))))))
theorem fmt6 {n : Nat} (h1 : 100000 ≤ n) (h2 : n < 1000000) (h3 : n ≤ 1048576) : Cl 67 [.int .i64 (n : Int), .int .i64 10] [] = some (.str (decB n), []) := by
 have nd := nd_am (n := n) (by omega) h3
 rw [show ndC n = 6 by simp only [ndC]; (repeat' split) <;> omega] at nd
 have fb := fb6 h1 h2 (u := 109) (xs := z24) rfl
 have ct : cvT [.agg 109 ((((((z24.set 6 (bD ((n % 10000 % 100) % 10))).set 5 (bD ((n % 10000 % 100) / 10))).set 4 (bD ((n % 10000 / 100) % 10))).set 3 (bD ((n % 10000 / 100) / 10))).set 2 (bD (((n / 10000) % 100) % 10))).set 1 (bD (((n / 10000) % 100) / 10)))] (.win 0 [] 1 6 5) = some (.str (decB n)) := by
  rw [← dec6 h1 h2]
  exact cvT_of (fun z h => by cases h) rfl
 have sl : slA 109 109 24 5 (.ref 0 [] 109) (some (.int .i64 1)) (some (.int .i64 7)) none = some (.win 0 [] 1 6 5) := rfl
 have sl2 : slA 109 109 24 5 (.ref 0 [] 109) (some (.int .i64 1)) (some (.int .i64 (1 + ((6 : Nat) : Int)))) none = some (.win 0 [] 1 6 5) := rfl
 have ad : bin .add (.int .i64 1) (.int .i64 ((6 : Nat) : Int)) = some (.int .i64 7) := rfl
 have cv : cvI .u64 (.int .i64 (n : Int)) = some (.int .u64 (n : Int)) := cvI_u64 (by omega) (by omega)
 rw [f67_eq]
 generalize ((((((z24.set 6 (bD ((n % 10000 % 100) % 10))).set 5 (bD ((n % 10000 % 100) / 10))).set 4 (bD ((n % 10000 / 100) % 10))).set 3 (bD ((n % 10000 / 100) / 10))).set 2 (bD (((n / 10000) % 100) % 10))).set 1 (bD (((n / 10000) % 100) / 10))) = ys at *
 generalize decB n = s at *
 (repeat' with_reducible first | refine (ite_T _ _).trans ?_ | refine (ite_F _ _).trans ?_ | refine (jn_eq _ _).trans ?_ | refine (bstep (by first | rfl | (simp (disch := first | assumption | omega | (with_reducible rfl) | (simp only [go_sem]; done) | (simp only [go_sem]; omega) | fail) only [↓reduceIte, ↓jn_eq, Nat.reduceAdd, go_sem, Bool.not_true, Bool.not_false, cv]; rfl)) _).trans ?_ | refine (if_pos (by first | rfl | (simp (disch := first | assumption | omega | (with_reducible rfl) | (simp only [go_sem]; done) | (simp only [go_sem]; omega) | fail) only [↓reduceIte, ↓jn_eq, Nat.reduceAdd, go_sem, Bool.not_true, Bool.not_false, cv]; done))).trans ?_ | refine (ite_dec (by first | assumption | omega | (simp (disch := first | assumption | omega | (with_reducible rfl) | (simp only [go_sem]; done) | (simp only [go_sem]; omega) | fail) only [↓reduceIte, ↓jn_eq, Nat.reduceAdd, go_sem, Bool.not_true, Bool.not_false, cv]; done) | (simp (disch := first | assumption | omega | (with_reducible rfl) | (simp only [go_sem]; done) | (simp only [go_sem]; omega) | fail) only [↓reduceIte, ↓jn_eq, Nat.reduceAdd, go_sem, Bool.not_true, Bool.not_false, cv]; omega)) _ _).trans ?_ | refine (ite_ndec (by first | assumption | omega | (simp (disch := first | assumption | omega | (with_reducible rfl) | (simp only [go_sem]; done) | (simp only [go_sem]; omega) | fail) only [↓reduceIte, ↓jn_eq, Nat.reduceAdd, go_sem, Bool.not_true, Bool.not_false, cv]; done) | (simp (disch := first | assumption | omega | (with_reducible rfl) | (simp only [go_sem]; done) | (simp only [go_sem]; omega) | fail) only [↓reduceIte, ↓jn_eq, Nat.reduceAdd, go_sem, Bool.not_true, Bool.not_false, cv]; omega)) _ _).trans ?_ | fail)
 refine (bstep nd _).trans ?_
 refine (bstep ad _).trans ?_
 refine (bstep sl _).trans ?_
 refine (bstep fb _).trans ?_
 (repeat' with_reducible first | refine (ite_T _ _).trans ?_ | refine (ite_F _ _).trans ?_ | refine (jn_eq _ _).trans ?_ | refine (bstep (by first | rfl | (simp (disch := first | assumption | omega | (with_reducible rfl) | (simp only [go_sem]; done) | (simp only [go_sem]; omega) | fail) only [↓reduceIte, ↓jn_eq, Nat.reduceAdd, go_sem, Bool.not_true, Bool.not_false]; rfl)) _).trans ?_ | refine (if_pos (by first | rfl | (simp (disch := first | assumption | omega | (with_reducible rfl) | (simp only [go_sem]; done) | (simp only [go_sem]; omega) | fail) only [↓reduceIte, ↓jn_eq, Nat.reduceAdd, go_sem, Bool.not_true, Bool.not_false]; done))).trans ?_ | refine (ite_dec (by first | assumption | omega | (simp (disch := first | assumption | omega | (with_reducible rfl) | (simp only [go_sem]; done) | (simp only [go_sem]; omega) | fail) only [↓reduceIte, ↓jn_eq, Nat.reduceAdd, go_sem, Bool.not_true, Bool.not_false]; done) | (simp (disch := first | assumption | omega | (with_reducible rfl) | (simp only [go_sem]; done) | (simp only [go_sem]; omega) | fail) only [↓reduceIte, ↓jn_eq, Nat.reduceAdd, go_sem, Bool.not_true, Bool.not_false]; omega)) _ _).trans ?_ | refine (ite_ndec (by first | assumption | omega | (simp (disch := first | assumption | omega | (with_reducible rfl) | (simp only [go_sem]; done) | (simp only [go_sem]; omega) | fail) only [↓reduceIte, ↓jn_eq, Nat.reduceAdd, go_sem, Bool.not_true, Bool.not_false]; done) | (simp (disch := first | assumption | omega | (with_reducible rfl) | (simp only [go_sem]; done) | (simp only [go_sem]; omega) | fail) only [↓reduceIte, ↓jn_eq, Nat.reduceAdd, go_sem, Bool.not_true, Bool.not_false]; omega)) _ _).trans ?_ | fail)
 refine (bstep sl2 _).trans ?_
 refine (bstep ct _).trans ?_
 rfl
theorem dec7 {n : Nat} (h1 : 1000000 ≤ n) (h2 : n < 10000000) : [dg (n / 10000 / 100), dg (n / 10000 % 100 / 10), dg (n / 10000 % 100 % 10), dg (n % 10000 / 100 / 10), dg (n % 10000 / 100 % 10), dg (n % 10000 % 100 / 10), dg (n % 10000 % 100 % 10)] = decB n := by
 simp only [decB, decF]
 rw [if_neg (by omega), if_neg (by omega), if_neg (by omega), if_neg (by omega), if_neg (by omega), if_neg (by omega), if_pos (by omega)]
 exact cons2 (congrArg dg (by omega)) (cons2 (congrArg dg (by omega)) (cons2 (congrArg dg (by omega)) (cons2 (congrArg dg (by omega)) (cons2 (congrArg dg (by omega)) (cons2 (congrArg dg (by omega)) (cons2 (congrArg dg (by omega)) (rfl)))))))
theorem fmt7 {n : Nat} (h1 : 1000000 ≤ n) (h2 : n < 10000000) (h3 : n ≤ 1048576) : Cl 67 [.int .i64 (n : Int), .int .i64 10] [] = some (.str (decB n), []) := by
 have nd := nd_am (n := n) (by omega) h3
 rw [show ndC n = 7 by simp only [ndC]; (repeat' split) <;> omega] at nd
 have fb := fb7 h1 h2 (u := 109) (xs := z24) rfl
 have ct : cvT [.agg 109 (((((((z24.set 7 (bD ((n % 10000 % 100) % 10))).set 6 (bD ((n % 10000 % 100) / 10))).set 5 (bD ((n % 10000 / 100) % 10))).set 4 (bD ((n % 10000 / 100) / 10))).set 3 (bD (((n / 10000) % 100) % 10))).set 2 (bD (((n / 10000) % 100) / 10))).set 1 (bD (n / 10000 / 100)))] (.win 0 [] 1 7 5) = some (.str (decB n)) := by
  rw [← dec7 h1 h2]
  exact cvT_of (fun z h => by cases h) rfl
 have sl : slA 109 109 24 5 (.ref 0 [] 109) (some (.int .i64 1)) (some (.int .i64 8)) none = some (.win 0 [] 1 7 5) := rfl
 have sl2 : slA 109 109 24 5 (.ref 0 [] 109) (some (.int .i64 1)) (some (.int .i64 (1 + ((7 : Nat) : Int)))) none = some (.win 0 [] 1 7 5) := rfl
 have ad : bin .add (.int .i64 1) (.int .i64 ((7 : Nat) : Int)) = some (.int .i64 8) := rfl
 have cv : cvI .u64 (.int .i64 (n : Int)) = some (.int .u64 (n : Int)) := cvI_u64 (by omega) (by omega)
 rw [f67_eq]
 generalize (((((((z24.set 7 (bD ((n % 10000 % 100) % 10))).set 6 (bD ((n % 10000 % 100) / 10))).set 5 (bD ((n % 10000 / 100) % 10))).set 4 (bD ((n % 10000 / 100) / 10))).set 3 (bD (((n / 10000) % 100) % 10))).set 2 (bD (((n / 10000) % 100) / 10))).set 1 (bD (n / 10000 / 100))) = ys at *
 generalize decB n = s at *
 (repeat' with_reducible first | refine (ite_T _ _).trans ?_ | refine (ite_F _ _).trans ?_ | refine (jn_eq _ _).trans ?_ | refine (bstep (by first | rfl | (simp (disch := first | assumption | omega | (with_reducible rfl) | (simp only [go_sem]; done) | (simp only [go_sem]; omega) | fail) only [↓reduceIte, ↓jn_eq, Nat.reduceAdd, go_sem, Bool.not_true, Bool.not_false, cv]; rfl)) _).trans ?_ | refine (if_pos (by first | rfl | (simp (disch := first | assumption | omega | (with_reducible rfl) | (simp only [go_sem]; done) | (simp only [go_sem]; omega) | fail) only [↓reduceIte, ↓jn_eq, Nat.reduceAdd, go_sem, Bool.not_true, Bool.not_false, cv]; done))).trans ?_ | refine (ite_dec (by first | assumption | omega | (simp (disch := first | assumption | omega | (with_reducible rfl) | (simp only [go_sem]; done) | (simp only [go_sem]; omega) | fail) only [↓reduceIte, ↓jn_eq, Nat.reduceAdd, go_sem, Bool.not_true, Bool.not_false, cv]; done) | (simp (disch := first | assumption | omega | (with_reducible rfl) | (simp only [go_sem]; done) | (simp only [go_sem]; omega) | fail) only [↓reduceIte, ↓jn_eq, Nat.reduceAdd, go_sem, Bool.not_true, Bool.not_false, cv]; omega)) _ _).trans ?_ | refine (ite_ndec (by first | assumption | omega | (simp (disch := first | assumption | omega | (with_reducible rfl) | (simp only [go_sem]; done) | (simp only [go_sem]; omega) | fail) only [↓reduceIte, ↓jn_eq, Nat.reduceAdd, go_sem, Bool.not_true, Bool.not_false, cv]; done) | (simp (disch := first | assumption | omega | (with_reducible rfl) | (simp only [go_sem]; done) | (simp only [go_sem]; omega) | fail) only [↓reduceIte, ↓jn_eq, Nat.reduceAdd, go_sem, Bool.not_true, Bool.not_false, cv]; omega)) _ _).trans ?_ | fail)
 refine (bstep nd _).trans ?_
 refine (bstep ad _).trans ?_
 refine (bstep sl _).trans ?_
 refine (bstep fb _).trans ?_
 (repeat' with_reducible first | refine (ite_T _ _).trans ?_ | refine (ite_F _ _).trans ?_ | refine (jn_eq _ _).trans ?_ | refine (bstep (by first | rfl | (simp (disch := first | assumption | omega | (with_reducible rfl) | (simp only [go_sem]; done) | (simp only [go_sem]; omega) | fail) only [↓reduceIte, ↓jn_eq, Nat.reduceAdd, go_sem, Bool.not_true, Bool.not_false]; rfl)) _).trans ?_ | refine (if_pos (by first | rfl | (simp (disch := first | assumption | omega | (with_reducible rfl) | (simp only [go_sem]; done) | (simp only [go_sem]; omega) | fail) only [↓reduceIte, ↓jn_eq, Nat.reduceAdd, go_sem, Bool.not_true, Bool.not_false]; done))).trans ?_ | refine (ite_dec (by first | assumption | omega | (simp (disch := first | assumption | omega | (with_reducible rfl) | (simp only [go_sem]; done) | (simp only [go_sem]; omega) | fail) only [↓reduceIte, ↓jn_eq, Nat.reduceAdd, go_sem, Bool.not_true, Bool.not_false]; done) | (simp (disch := first | assumption | omega | (with_reducible rfl) | (simp only [go_sem]; done) | (simp only [go_sem]; omega) | fail) only [↓reduceIte, ↓jn_eq, Nat.reduceAdd, go_sem, Bool.not_true, Bool.not_false]; omega)) _ _).trans ?_ | refine (ite_ndec (by first | assumption | omega | (simp (disch := first | assumption | omega | (with_reducible rfl) | (simp only [go_sem]; done) | (simp only [go_sem]; omega) | fail) only [↓reduceIte, ↓jn_eq, Nat.reduceAdd, go_sem, Bool.not_true, Bool.not_false]; done) | (simp (disch := first | assumption | omega | (with_reducible rfl) | (simp only [go_sem]; done) | (simp only [go_sem]; omega) | fail) only [↓reduceIte, ↓jn_eq, Nat.reduceAdd, go_sem, Bool.not_true, Bool.not_false]; omega)) _ _).trans ?_ | fail)
 refine (bstep sl2 _).trans ?_
 refine (bstep ct _).trans ?_
 rfl
theorem itoa_am {n : Nat} (h : n ≤ 1048576) : Cl 44 [.int .i64 (n : Int)] [] = some (.str (decB n), []) := by
 have f : Cl 67 [.int .i64 (n : Int), .int .i64 10] [] = some (.str (decB n), []) := by
  by_cases c0 : n < 100
  · have s := small_am c0
    rw [f67_eq]
    generalize decB n = x at *
    (repeat' with_reducible first | refine (ite_T _ _).trans ?_ | refine (ite_F _ _).trans ?_ | refine (jn_eq _ _).trans ?_ | refine (bstep (by first | rfl | (simp (disch := first | assumption | omega | (with_reducible rfl) | (simp only [go_sem]; done) | (simp only [go_sem]; omega) | fail) only [↓reduceIte, ↓jn_eq, Nat.reduceAdd, go_sem, Bool.not_true, Bool.not_false, s]; rfl)) _).trans ?_ | refine (if_pos (by first | rfl | (simp (disch := first | assumption | omega | (with_reducible rfl) | (simp only [go_sem]; done) | (simp only [go_sem]; omega) | fail) only [↓reduceIte, ↓jn_eq, Nat.reduceAdd, go_sem, Bool.not_true, Bool.not_false, s]; done))).trans ?_ | refine (ite_dec (by first | assumption | omega | (simp (disch := first | assumption | omega | (with_reducible rfl) | (simp only [go_sem]; done) | (simp only [go_sem]; omega) | fail) only [↓reduceIte, ↓jn_eq, Nat.reduceAdd, go_sem, Bool.not_true, Bool.not_false, s]; done) | (simp (disch := first | assumption | omega | (with_reducible rfl) | (simp only [go_sem]; done) | (simp only [go_sem]; omega) | fail) only [↓reduceIte, ↓jn_eq, Nat.reduceAdd, go_sem, Bool.not_true, Bool.not_false, s]; omega)) _ _).trans ?_ | refine (ite_ndec (by first | assumption | omega | (simp (disch := first | assumption | omega | (with_reducible rfl) | (simp only [go_sem]; done) | (simp only [go_sem]; omega) | fail) only [↓reduceIte, ↓jn_eq, Nat.reduceAdd, go_sem, Bool.not_true, Bool.not_false, s]; done) | (simp (disch := first | assumption | omega | (with_reducible rfl) | (simp only [go_sem]; done) | (simp only [go_sem]; omega) | fail) only [↓reduceIte, ↓jn_eq, Nat.reduceAdd, go_sem, Bool.not_true, Bool.not_false, s]; omega)) _ _).trans ?_ | fail)
    rfl
  by_cases c1 : n < 1000
  · exact fmt3 (by omega) c1 h
  by_cases c2 : n < 10000
  · exact fmt4 (by omega) c2 h
  by_cases c3 : n < 100000
  · exact fmt5 (by omega) c3 h
  by_cases c4 : n < 1000000
  · exact fmt6 (by omega) c4 h
  · exact fmt7 (by omega) (by omega) h
 have i : Cl 52 [.int .i64 (n : Int)] [] = some (.str (decB n), []) := by
  rw [f52_eq]
  generalize decB n = x at *
  (repeat' with_reducible first | refine (ite_T _ _).trans ?_ | refine (ite_F _ _).trans ?_ | refine (jn_eq _ _).trans ?_ | refine (bstep (by first | rfl | (simp (disch := first | assumption | omega | (with_reducible rfl) | (simp only [go_sem]; done) | (simp only [go_sem]; omega) | fail) only [↓reduceIte, ↓jn_eq, Nat.reduceAdd, go_sem, Bool.not_true, Bool.not_false, f]; rfl)) _).trans ?_ | refine (if_pos (by first | rfl | (simp (disch := first | assumption | omega | (with_reducible rfl) | (simp only [go_sem]; done) | (simp only [go_sem]; omega) | fail) only [↓reduceIte, ↓jn_eq, Nat.reduceAdd, go_sem, Bool.not_true, Bool.not_false, f]; done))).trans ?_ | refine (ite_dec (by first | assumption | omega | (simp (disch := first | assumption | omega | (with_reducible rfl) | (simp only [go_sem]; done) | (simp only [go_sem]; omega) | fail) only [↓reduceIte, ↓jn_eq, Nat.reduceAdd, go_sem, Bool.not_true, Bool.not_false, f]; done) | (simp (disch := first | assumption | omega | (with_reducible rfl) | (simp only [go_sem]; done) | (simp only [go_sem]; omega) | fail) only [↓reduceIte, ↓jn_eq, Nat.reduceAdd, go_sem, Bool.not_true, Bool.not_false, f]; omega)) _ _).trans ?_ | refine (ite_ndec (by first | assumption | omega | (simp (disch := first | assumption | omega | (with_reducible rfl) | (simp only [go_sem]; done) | (simp only [go_sem]; omega) | fail) only [↓reduceIte, ↓jn_eq, Nat.reduceAdd, go_sem, Bool.not_true, Bool.not_false, f]; done) | (simp (disch := first | assumption | omega | (with_reducible rfl) | (simp only [go_sem]; done) | (simp only [go_sem]; omega) | fail) only [↓reduceIte, ↓jn_eq, Nat.reduceAdd, go_sem, Bool.not_true, Bool.not_false, f]; omega)) _ _).trans ?_ | fail)
  rfl
 rw [f44_eq]
 generalize decB n = x at *
 (repeat' with_reducible first | refine (ite_T _ _).trans ?_ | refine (ite_F _ _).trans ?_ | refine (jn_eq _ _).trans ?_ | refine (bstep (by first | rfl | (simp (disch := first | assumption | omega | (with_reducible rfl) | (simp only [go_sem]; done) | (simp only [go_sem]; omega) | fail) only [↓reduceIte, ↓jn_eq, Nat.reduceAdd, go_sem, Bool.not_true, Bool.not_false, i]; rfl)) _).trans ?_ | refine (if_pos (by first | rfl | (simp (disch := first | assumption | omega | (with_reducible rfl) | (simp only [go_sem]; done) | (simp only [go_sem]; omega) | fail) only [↓reduceIte, ↓jn_eq, Nat.reduceAdd, go_sem, Bool.not_true, Bool.not_false, i]; done))).trans ?_ | refine (ite_dec (by first | assumption | omega | (simp (disch := first | assumption | omega | (with_reducible rfl) | (simp only [go_sem]; done) | (simp only [go_sem]; omega) | fail) only [↓reduceIte, ↓jn_eq, Nat.reduceAdd, go_sem, Bool.not_true, Bool.not_false, i]; done) | (simp (disch := first | assumption | omega | (with_reducible rfl) | (simp only [go_sem]; done) | (simp only [go_sem]; omega) | fail) only [↓reduceIte, ↓jn_eq, Nat.reduceAdd, go_sem, Bool.not_true, Bool.not_false, i]; omega)) _ _).trans ?_ | refine (ite_ndec (by first | assumption | omega | (simp (disch := first | assumption | omega | (with_reducible rfl) | (simp only [go_sem]; done) | (simp only [go_sem]; omega) | fail) only [↓reduceIte, ↓jn_eq, Nat.reduceAdd, go_sem, Bool.not_true, Bool.not_false, i]; done) | (simp (disch := first | assumption | omega | (with_reducible rfl) | (simp only [go_sem]; done) | (simp only [go_sem]; omega) | fail) only [↓reduceIte, ↓jn_eq, Nat.reduceAdd, go_sem, Bool.not_true, Bool.not_false, i]; omega)) _ _).trans ?_ | fail)
 rfl
theorem decF_len : ∀ f n, (decF f n).length ≤ f
 | 0, _ => by simp [decF]
 | f + 1, n => by
   have := decF_len f (n / 10)
   rw [decF]; split
   · simp
   · simp; omega
theorem decB_len (n : Nat) : (decB n).length ≤ 8 := decF_len 8 n
end Go.Proofs.YtaghnpjlhmgioaaDoor
end

section
set_option linter.unusedVariables false
set_option linter.unusedSimpArgs false
set_option linter.unusedSectionVars false
set_option maxRecDepth 100000
namespace Go.Proofs.YtaghnpjlhmgioaaDoor
open Go AM
def stepF (a : Nat) (c : UInt8) : Nat := a * 10 + (c.toNat - 48)
def valF (a : Nat) (l : List UInt8) : Nat := l.foldl stepF a
theorem valF_nil (a : Nat) : valF a [] = a := rfl
theorem valF_cons (a : Nat) (c : UInt8) (l : List UInt8) : valF a (c :: l) = valF (a * 10 + (c.toNat - 48)) l := by simp only [valF, List.foldl_cons, stepF]
theorem ixT0 (c : UInt8) (r : List UInt8) : ixT (.str (c :: r)) (.int .i64 0) = some (.int .u8 (c.toNat : Int)) := by
 have h : inside (0 : Int) (c :: r).length = true := by simp only [inside, List.length_cons, Bool.and_eq_true, decide_eq_true_eq]; omega
 simp only [ixT, h, if_true]; rfl
def isD (c : UInt8) : Prop := 48 ≤ c.toNat ∧ c.toNat ≤ 57
theorem valF_app (l : List UInt8) (a : Nat) (c : UInt8) : valF a (l ++ [c]) = valF a l * 10 + (c.toNat - 48) := by
 simp only [valF, List.foldl_append, List.foldl_cons, List.foldl_nil, stepF]
theorem dg_nat {k : Nat} (h : k < 10) : (dg k).toNat = 48 + k := by simp [dg]; omega
theorem decF_val : ∀ f n, 0 < f → n < 10 ^ f → valF 0 (decF f n) = n
 | 0, _, h, _ => by omega
 | f + 1, n, _, h => by
   rw [decF]
   by_cases h10 : n < 10
   · rw [if_pos h10, valF_cons, valF_nil, dg_nat h10]; omega
   · rw [if_neg h10, valF_app, dg_nat (Nat.mod_lt _ (by omega))]
     rw [decF_val f (n / 10) (by cases f with
      | zero => simp at h; omega
      | succ => omega) (by
        obtain ⟨p, hp⟩ : ∃ p, 10 ^ f = p := ⟨_, rfl⟩
        rw [Nat.pow_succ, hp] at h; rw [hp]; omega)]
     omega
theorem decF_dig : ∀ f n, ∀ c ∈ decF f n, isD c
 | 0, _, c, h => by simp [decF] at h
 | f + 1, n, c, h => by
   rw [decF] at h
   split at h
   · rename_i h10
     rw [List.mem_singleton] at h; subst h
     rw [isD, dg_nat h10]; omega
   · rcases List.mem_append.1 h with h | h
     · exact decF_dig f _ c h
     · rw [List.mem_singleton] at h; subst h
       have := Nat.mod_lt n (show 0 < 10 by omega)
       rw [isD, dg_nat this]; omega
theorem decF_ne : ∀ f n, 0 < f → decF f n ≠ []
 | f + 1, n, _ => by rw [decF]; split <;> simp
theorem decB_val {n : Nat} (h : n ≤ 1048576) : valF 0 (decB n) = n := decF_val 8 n (by omega) (by omega)
theorem decB_dig (n : Nat) : ∀ c ∈ decB n, isD c := decF_dig 8 n
theorem decB_ne (n : Nat) : decB n ≠ [] := decF_ne 8 n (by omega)
theorem atoi_l0 {s cs : List UInt8} (hs : ∃ c r, s = c :: r ∧ isD c) (hd : ∀ c ∈ cs, isD c) (hl : cs.length ≤ 9) (N : Nat) (h : List V) : ∀ (m i acc : Nat), i + m = cs.length → acc < 10 ^ i →
 f55_l0 (.str s) (.int .i64 (acc : Int)) (.lst 5 .own (bytesOf cs)) (.int .i64 (cs.length : Int)) (.int .i64 (i : Int)) N h = finK h (.tup [.int .i64 (valF acc (cs.drop i) : Int), .nili]) := by
 obtain ⟨c0, r0, rfl, hc0⟩ := hs
 simp only [isD] at hc0
 intro m
 induction m with
 | zero =>
   intro i acc hi ha
   have x0 := ixT0 c0 r0
   have e0 : bin .eql (.int .u8 (c0.toNat : Int)) (.int .u8 45) = some (.bool false) := by
    rw [b_eql, decide_eq_false (by omega)]
   rw [List.drop_eq_nil_of_le (by omega), valF_nil, f55_l0_eq]
   simp only [f55_r10, f55_r17, f55_r19]
   (repeat' with_reducible first | refine (ite_T _ _).trans ?_ | refine (ite_F _ _).trans ?_ | refine (jn_eq _ _).trans ?_ | refine (bstep (by first | rfl | (simp (disch := first | assumption | omega | (with_reducible rfl) | (simp only [go_sem]; done) | (simp only [go_sem]; omega) | fail) only [↓reduceIte, ↓jn_eq, Nat.reduceAdd, go_sem, Bool.not_true, Bool.not_false, x0, e0]; rfl)) _).trans ?_ | refine (if_pos (by first | rfl | (simp (disch := first | assumption | omega | (with_reducible rfl) | (simp only [go_sem]; done) | (simp only [go_sem]; omega) | fail) only [↓reduceIte, ↓jn_eq, Nat.reduceAdd, go_sem, Bool.not_true, Bool.not_false, x0, e0]; done))).trans ?_ | refine (ite_dec (by first | assumption | omega | (simp (disch := first | assumption | omega | (with_reducible rfl) | (simp only [go_sem]; done) | (simp only [go_sem]; omega) | fail) only [↓reduceIte, ↓jn_eq, Nat.reduceAdd, go_sem, Bool.not_true, Bool.not_false, x0, e0]; done) | (simp (disch := first | assumption | omega | (with_reducible rfl) | (simp only [go_sem]; done) | (simp only [go_sem]; omega) | fail) only [↓reduceIte, ↓jn_eq, Nat.reduceAdd, go_sem, Bool.not_true, Bool.not_false, x0, e0]; omega)) _ _).trans ?_ | refine (ite_ndec (by first | assumption | omega | (simp (disch := first | assumption | omega | (with_reducible rfl) | (simp only [go_sem]; done) | (simp only [go_sem]; omega) | fail) only [↓reduceIte, ↓jn_eq, Nat.reduceAdd, go_sem, Bool.not_true, Bool.not_false, x0, e0]; done) | (simp (disch := first | assumption | omega | (with_reducible rfl) | (simp only [go_sem]; done) | (simp only [go_sem]; omega) | fail) only [↓reduceIte, ↓jn_eq, Nat.reduceAdd, go_sem, Bool.not_true, Bool.not_false, x0, e0]; omega)) _ _).trans ?_ | fail)
   rfl
 | succ m ih =>
   intro i acc hi ha
   have hlt : i < cs.length := by omega
   have hcd := hd _ (List.getElem_mem hlt)
   simp only [isD] at hcd
   have hx : (bytesOf cs)[i]? = some (.int .u8 (cs[i].toNat : Int)) := by simp [bytesOf, hlt]
   have hp : (10 : Nat) ^ i ≤ 10 ^ 8 := Nat.pow_le_pow_right (by omega) (by omega)
   have hb := UInt8.toNat_lt cs[i]
   have sb : bin .sub (.int .u8 (cs[i].toNat : Int)) (.int .u8 48) = some (.int .u8 ((cs[i].toNat - 48 : Nat) : Int)) := by
    rw [b_sub, wrap_u8 (by omega) (by omega)]; congr 2; omega
   have gt : bin .gtr (.int .u8 ((cs[i].toNat - 48 : Nat) : Int)) (.int .u8 9) = some (.bool false) := by
    rw [b_gtr, decide_eq_false (by omega)]
   have mu : bin .mul (.int .i64 (acc : Int)) (.int .i64 10) = some (.int .i64 ((acc * 10 : Nat) : Int)) := by
    rw [b_mul, wrap_i64 (by omega) (by omega)]; rfl
   have cv : cvI .i64 (.int .u8 ((cs[i].toNat - 48 : Nat) : Int)) = some (.int .i64 ((cs[i].toNat - 48 : Nat) : Int)) := cvI_i64 (by omega) (by omega)
   have ad : bin .add (.int .i64 ((acc * 10 : Nat) : Int)) (.int .i64 ((cs[i].toNat - 48 : Nat) : Int)) = some (.int .i64 ((acc * 10 + (cs[i].toNat - 48) : Nat) : Int)) := by
    rw [b_add, wrap_i64 (by omega) (by omega)]; rfl
   have ih' := ih (i + 1) (acc * 10 + (cs[i].toNat - 48)) (by omega) (by
    obtain ⟨p, hp'⟩ : ∃ p, 10 ^ i = p := ⟨_, rfl⟩
    rw [hp'] at ha; rw [Nat.pow_succ, hp']; omega)
   rw [List.drop_eq_getElem_cons hlt, valF_cons, ← ih']
   rw [f55_l0_eq]
   simp only [f55_r10, f55_r11, f55_r12, f55_r13, f55_r15, f55_r16]
   have bl : (bytesOf cs).length = cs.length := by simp [bytesOf]
   clear ih ih' ha hi
   generalize acc * 10 + (cs[i].toNat - 48) = a2 at *
   generalize acc * 10 = a1 at *
   generalize cs[i].toNat - 48 = d at *
   generalize cs[i].toNat = c at *
   generalize bytesOf cs = B at *
   (repeat' with_reducible first | refine (ite_T _ _).trans ?_ | refine (ite_F _ _).trans ?_ | refine (jn_eq _ _).trans ?_ | refine (bstep (by first | rfl | (simp (disch := first | assumption | omega | (with_reducible rfl) | (simp only [go_sem]; done) | (simp only [go_sem]; omega) | fail) only [↓reduceIte, ↓jn_eq, Nat.reduceAdd, go_sem, Bool.not_true, Bool.not_false, hx, sb, gt, mu, cv, ad]; rfl)) _).trans ?_ | refine (if_pos (by first | rfl | (simp (disch := first | assumption | omega | (with_reducible rfl) | (simp only [go_sem]; done) | (simp only [go_sem]; omega) | fail) only [↓reduceIte, ↓jn_eq, Nat.reduceAdd, go_sem, Bool.not_true, Bool.not_false, hx, sb, gt, mu, cv, ad]; done))).trans ?_ | refine (ite_dec (by first | assumption | omega | (simp (disch := first | assumption | omega | (with_reducible rfl) | (simp only [go_sem]; done) | (simp only [go_sem]; omega) | fail) only [↓reduceIte, ↓jn_eq, Nat.reduceAdd, go_sem, Bool.not_true, Bool.not_false, hx, sb, gt, mu, cv, ad]; done) | (simp (disch := first | assumption | omega | (with_reducible rfl) | (simp only [go_sem]; done) | (simp only [go_sem]; omega) | fail) only [↓reduceIte, ↓jn_eq, Nat.reduceAdd, go_sem, Bool.not_true, Bool.not_false, hx, sb, gt, mu, cv, ad]; omega)) _ _).trans ?_ | refine (ite_ndec (by first | assumption | omega | (simp (disch := first | assumption | omega | (with_reducible rfl) | (simp only [go_sem]; done) | (simp only [go_sem]; omega) | fail) only [↓reduceIte, ↓jn_eq, Nat.reduceAdd, go_sem, Bool.not_true, Bool.not_false, hx, sb, gt, mu, cv, ad]; done) | (simp (disch := first | assumption | omega | (with_reducible rfl) | (simp only [go_sem]; done) | (simp only [go_sem]; omega) | fail) only [↓reduceIte, ↓jn_eq, Nat.reduceAdd, go_sem, Bool.not_true, Bool.not_false, hx, sb, gt, mu, cv, ad]; omega)) _ _).trans ?_ | fail)
   rfl
theorem atoi5_am {s : List UInt8} (hn : s ≠ []) (hd : ∀ c ∈ s, isD c) (hl : s.length ≤ 9) (h : List V) : Cl 55 [.str s] h = finK h (.tup [.int .i64 (valF 0 s : Int), .nili]) := by
 obtain ⟨c0, r0, rfl⟩ : ∃ c r, s = c :: r := by
  cases s with
  | nil => exact absurd rfl hn
  | cons c r => exact ⟨c, r, rfl⟩
 have hc0 := hd c0 List.mem_cons_self
 have h0 := atoi_l0 ⟨c0, r0, rfl, hc0⟩ hd hl h.length h (c0 :: r0).length 0 0 (by omega) (by simp)
 simp only [isD] at hc0
 have x0 := ixT0 c0 r0
 have e0 : bin .eql (.int .u8 (c0.toNat : Int)) (.int .u8 45) = some (.bool false) := by rw [b_eql, decide_eq_false (by omega)]
 have e1 : bin .eql (.int .u8 (c0.toNat : Int)) (.int .u8 43) = some (.bool false) := by rw [b_eql, decide_eq_false (by omega)]
 have l0 : lnS (.str (c0 :: r0)) = some (.int .i64 ((c0 :: r0).length : Int)) := rfl
 have hp : 0 < (c0 :: r0).length := by simp
 have bl : (bytesOf (c0 :: r0)).length = (c0 :: r0).length := by simp [bytesOf]
 have cb : cvB 5 (.str (c0 :: r0)) = some (.lst 5 .own (bytesOf (c0 :: r0))) := cvB_s (by omega) _
 have ll : lnL (.lst 5 .own (bytesOf (c0 :: r0))) = some (.int .i64 ((c0 :: r0).length : Int)) := by rw [← bl]; rfl
 rw [f55_eq]
 simp only [f55_r0, f55_r1, f55_r2, f55_r3, f55_r4, f55_r8, f55_r9]
 rw [List.drop_zero] at h0
 rw [← h0]
 generalize c0 :: r0 = s at *
 generalize bytesOf s = B at *
 (repeat' with_reducible first | refine (ite_T _ _).trans ?_ | refine (ite_F _ _).trans ?_ | refine (jn_eq _ _).trans ?_ | refine (bstep (by first | rfl | (simp (disch := first | assumption | omega | (with_reducible rfl) | (simp only [go_sem]; done) | (simp only [go_sem]; omega) | fail) only [↓reduceIte, ↓jn_eq, Nat.reduceAdd, go_sem, Bool.not_true, Bool.not_false, x0, e0, e1, l0, cb, ll]; rfl)) _).trans ?_ | refine (if_pos (by first | rfl | (simp (disch := first | assumption | omega | (with_reducible rfl) | (simp only [go_sem]; done) | (simp only [go_sem]; omega) | fail) only [↓reduceIte, ↓jn_eq, Nat.reduceAdd, go_sem, Bool.not_true, Bool.not_false, x0, e0, e1, l0, cb, ll]; done))).trans ?_ | refine (ite_dec (by first | assumption | omega | (simp (disch := first | assumption | omega | (with_reducible rfl) | (simp only [go_sem]; done) | (simp only [go_sem]; omega) | fail) only [↓reduceIte, ↓jn_eq, Nat.reduceAdd, go_sem, Bool.not_true, Bool.not_false, x0, e0, e1, l0, cb, ll]; done) | (simp (disch := first | assumption | omega | (with_reducible rfl) | (simp only [go_sem]; done) | (simp only [go_sem]; omega) | fail) only [↓reduceIte, ↓jn_eq, Nat.reduceAdd, go_sem, Bool.not_true, Bool.not_false, x0, e0, e1, l0, cb, ll]; omega)) _ _).trans ?_ | refine (ite_ndec (by first | assumption | omega | (simp (disch := first | assumption | omega | (with_reducible rfl) | (simp only [go_sem]; done) | (simp only [go_sem]; omega) | fail) only [↓reduceIte, ↓jn_eq, Nat.reduceAdd, go_sem, Bool.not_true, Bool.not_false, x0, e0, e1, l0, cb, ll]; done) | (simp (disch := first | assumption | omega | (with_reducible rfl) | (simp only [go_sem]; done) | (simp only [go_sem]; omega) | fail) only [↓reduceIte, ↓jn_eq, Nat.reduceAdd, go_sem, Bool.not_true, Bool.not_false, x0, e0, e1, l0, cb, ll]; omega)) _ _).trans ?_ | fail)
 rfl
theorem atoi_am {s : List UInt8} (hn : s ≠ []) (hd : ∀ c ∈ s, isD c) (hl : s.length ≤ 9) (h : List V) : Cl 47 [.str s] h = some (.tup [.int .i64 (valF 0 s : Int), .nili], h) := by
 have a := atoi5_am hn hd hl h
 rw [f47_eq]
 refine (bstep (a.trans rfl) _).trans ?_
 (repeat' with_reducible first | refine (ite_T _ _).trans ?_ | refine (ite_F _ _).trans ?_ | refine (jn_eq _ _).trans ?_ | refine (bstep (by first | rfl | (simp (disch := first | assumption | omega | (with_reducible rfl) | (simp only [go_sem]; done) | (simp only [go_sem]; omega) | fail) only [↓reduceIte, ↓jn_eq, Nat.reduceAdd, go_sem, Bool.not_true, Bool.not_false]; rfl)) _).trans ?_ | refine (if_pos (by first | rfl | (simp (disch := first | assumption | omega | (with_reducible rfl) | (simp only [go_sem]; done) | (simp only [go_sem]; omega) | fail) only [↓reduceIte, ↓jn_eq, Nat.reduceAdd, go_sem, Bool.not_true, Bool.not_false]; done))).trans ?_ | refine (ite_dec (by first | assumption | omega | (simp (disch := first | assumption | omega | (with_reducible rfl) | (simp only [go_sem]; done) | (simp only [go_sem]; omega) | fail) only [↓reduceIte, ↓jn_eq, Nat.reduceAdd, go_sem, Bool.not_true, Bool.not_false]; done) | (simp (disch := first | assumption | omega | (with_reducible rfl) | (simp only [go_sem]; done) | (simp only [go_sem]; omega) | fail) only [↓reduceIte, ↓jn_eq, Nat.reduceAdd, go_sem, Bool.not_true, Bool.not_false]; omega)) _ _).trans ?_ | refine (ite_ndec (by first | assumption | omega | (simp (disch := first | assumption | omega | (with_reducible rfl) | (simp only [go_sem]; done) | (simp only [go_sem]; omega) | fail) only [↓reduceIte, ↓jn_eq, Nat.reduceAdd, go_sem, Bool.not_true, Bool.not_false]; done) | (simp (disch := first | assumption | omega | (with_reducible rfl) | (simp only [go_sem]; done) | (simp only [go_sem]; omega) | fail) only [↓reduceIte, ↓jn_eq, Nat.reduceAdd, go_sem, Bool.not_true, Bool.not_false]; omega)) _ _).trans ?_ | fail)
 rfl
end Go.Proofs.YtaghnpjlhmgioaaDoor
end

section
set_option maxRecDepth 100000
set_option linter.unusedVariables false
namespace Go.Proofs.YtaghnpjlhmgioaaDoor
open Go AM
noncomputable def f53n_l1 (t0 t1 t5 t6 t7 t8 t9 t10 : V) : Rv := lp W 53 1 (cd 53 2303) (bk 1 (sk 53 0 1023 (lv 53 0))) ⟨[(0, t0), (1, t1), (5, t5), (6, t6), (7, t7), (8, t8), (9, t9), (10, t10)], []⟩
theorem f53n_eq (t0 t1 : V) : Cl 53 [t0, t1] [] =
 (lnS t1).bind fun t15_1 => jn (fun t16_2 =>
 V.ite t16_2
  (finT 0 [] (V.int .i64 0))
  ((bin .eql t15_1 (V.int .i64 1)).bind fun t26_3 => V.ite t26_3
  ((ixT t1 (V.int .i64 0)).bind fun t29_4 => (Cl 68 (reifyL [] [t0, t29_4]) []).bind fun r_5 => finT 0 [] r_5.1)
  ((lnS t0).bind fun t34_6 => (bin .geq t15_1 t34_6).bind fun t35_7 => V.ite t35_7
  (finT 0 [] (V.int .i64 (-1)))
  (jn (fun t36_8 =>
 V.ite t36_8
  ((Cl 69 (reifyL [] [t0, t1]) []).bind fun r_9 => finT 0 [] r_9.1)
  ((ixT t1 (V.int .i64 0)).bind fun t49_10 => (ixT t1 (V.int .i64 1)).bind fun t51_11 => (lnS t0).bind fun t53_12 => (bin .sub t53_12 t15_1).bind fun t55_13 => (bin .add t55_13 (V.int .i64 1)).bind fun t56_14 => f53n_l1 t0 t1 t15_1 t49_10 t51_11 (V.int .i64 0) t56_14 (V.int .i64 0))) (fun (k_57 : V → Rv) => (ldP [] 3 V.undef).bind fun t38_58 => (bin .leq t15_1 t38_58).bind fun t39_59 => V.ite t39_59 ((lnS t0).bind fun t42_60 => (bin .leq t42_60 (V.int .i64 64)).bind fun t43_61 => k_57 t43_61) (k_57 (V.bool false))))))) (fun (k_62 : V → Rv) => (bin .eql t15_1 (V.int .i64 0)).bind fun t18_63 => V.ite t18_63 (k_62 (V.bool true)) ((bin .eql t1 t0).bind fun t22_64 => k_62 t22_64)) :=
 f_eq (by kernel_rfl)
end Go.Proofs.YtaghnpjlhmgioaaDoor
end

section
set_option linter.unusedVariables false
set_option linter.unusedSimpArgs false
set_option linter.unusedSectionVars false
set_option maxRecDepth 100000
namespace Go.Proofs.YtaghnpjlhmgioaaDoor
open Go AM
theorem ixB_app : ∀ (a b : List UInt8) (c : UInt8), c ∉ a → Lib.indexByte (a ++ c :: b) c = (a.length : Int)
 | [], b, c, _ => by simp [Lib.indexByte]
 | x :: a, b, c, h => by
   have h1 : ¬ (x == c) = true := fun e => h (by rw [beq_iff_eq] at e; rw [e]; exact List.mem_cons_self)
   have ih := ixB_app a b c (fun hm => h (List.mem_cons_of_mem _ hm))
   rw [List.cons_append, Lib.indexByte, if_neg h1, ih, if_neg (by rw [beq_iff_eq]; omega), List.length_cons]
   omega
theorem nat_u8 (c : UInt8) : ((c.toNat : Int).toNat).toUInt8 = c := by simp
theorem ib_am (s : List UInt8) (c : UInt8) : Cl 68 [.str s, .int .u8 (c.toNat : Int)] [] = some (.int .i64 (Lib.indexByte s c), []) := by
 rw [f68_eq]
 simp only [mnz, natI, nat_u8]
 rfl
theorem idx_am (s : List UInt8) (c : UInt8) : Cl 53 [.str s, .str [c]] [] = some (.int .i64 (Lib.indexByte s c), []) := by
 have ib := ib_am s c
 have x0 : ixT (.str [c]) (.int .i64 0) = some (.int .u8 (c.toNat : Int)) := rfl
 have l1 : lnS (.str [c]) = some (.int .i64 1) := rfl
 rw [f53n_eq]
 by_cases hs : [c] = s
 · have e : bin .eql (.str [c]) (.str s) = some (.bool true) := by rw [hs]; simp [bin]
   have e2 : Lib.indexByte s c = 0 := by rw [← hs]; simp [Lib.indexByte]
   rw [e2]
   (repeat' with_reducible first | refine (ite_T _ _).trans ?_ | refine (ite_F _ _).trans ?_ | refine (jn_eq _ _).trans ?_ | refine (bstep (by first | rfl | (simp (disch := first | assumption | omega | (with_reducible rfl) | (simp only [go_sem]; done) | (simp only [go_sem]; omega) | fail) only [↓reduceIte, ↓jn_eq, Nat.reduceAdd, go_sem, Bool.not_true, Bool.not_false, l1, e]; rfl)) _).trans ?_ | refine (if_pos (by first | rfl | (simp (disch := first | assumption | omega | (with_reducible rfl) | (simp only [go_sem]; done) | (simp only [go_sem]; omega) | fail) only [↓reduceIte, ↓jn_eq, Nat.reduceAdd, go_sem, Bool.not_true, Bool.not_false, l1, e]; done))).trans ?_ | refine (ite_dec (by first | assumption | omega | (simp (disch := first | assumption | omega | (with_reducible rfl) | (simp only [go_sem]; done) | (simp only [go_sem]; omega) | fail) only [↓reduceIte, ↓jn_eq, Nat.reduceAdd, go_sem, Bool.not_true, Bool.not_false, l1, e]; done) | (simp (disch := first | assumption | omega | (with_reducible rfl) | (simp only [go_sem]; done) | (simp only [go_sem]; omega) | fail) only [↓reduceIte, ↓jn_eq, Nat.reduceAdd, go_sem, Bool.not_true, Bool.not_false, l1, e]; omega)) _ _).trans ?_ | refine (ite_ndec (by first | assumption | omega | (simp (disch := first | assumption | omega | (with_reducible rfl) | (simp only [go_sem]; done) | (simp only [go_sem]; omega) | fail) only [↓reduceIte, ↓jn_eq, Nat.reduceAdd, go_sem, Bool.not_true, Bool.not_false, l1, e]; done) | (simp (disch := first | assumption | omega | (with_reducible rfl) | (simp only [go_sem]; done) | (simp only [go_sem]; omega) | fail) only [↓reduceIte, ↓jn_eq, Nat.reduceAdd, go_sem, Bool.not_true, Bool.not_false, l1, e]; omega)) _ _).trans ?_ | fail)
   rfl
 · have e : bin .eql (.str [c]) (.str s) = some (.bool false) := by simp [bin, hs]
   (repeat' with_reducible first | refine (ite_T _ _).trans ?_ | refine (ite_F _ _).trans ?_ | refine (jn_eq _ _).trans ?_ | refine (bstep (by first | rfl | (simp (disch := first | assumption | omega | (with_reducible rfl) | (simp only [go_sem]; done) | (simp only [go_sem]; omega) | fail) only [↓reduceIte, ↓jn_eq, Nat.reduceAdd, go_sem, Bool.not_true, Bool.not_false, l1, e, x0, ib]; rfl)) _).trans ?_ | refine (if_pos (by first | rfl | (simp (disch := first | assumption | omega | (with_reducible rfl) | (simp only [go_sem]; done) | (simp only [go_sem]; omega) | fail) only [↓reduceIte, ↓jn_eq, Nat.reduceAdd, go_sem, Bool.not_true, Bool.not_false, l1, e, x0, ib]; done))).trans ?_ | refine (ite_dec (by first | assumption | omega | (simp (disch := first | assumption | omega | (with_reducible rfl) | (simp only [go_sem]; done) | (simp only [go_sem]; omega) | fail) only [↓reduceIte, ↓jn_eq, Nat.reduceAdd, go_sem, Bool.not_true, Bool.not_false, l1, e, x0, ib]; done) | (simp (disch := first | assumption | omega | (with_reducible rfl) | (simp only [go_sem]; done) | (simp only [go_sem]; omega) | fail) only [↓reduceIte, ↓jn_eq, Nat.reduceAdd, go_sem, Bool.not_true, Bool.not_false, l1, e, x0, ib]; omega)) _ _).trans ?_ | refine (ite_ndec (by first | assumption | omega | (simp (disch := first | assumption | omega | (with_reducible rfl) | (simp only [go_sem]; done) | (simp only [go_sem]; omega) | fail) only [↓reduceIte, ↓jn_eq, Nat.reduceAdd, go_sem, Bool.not_true, Bool.not_false, l1, e, x0, ib]; done) | (simp (disch := first | assumption | omega | (with_reducible rfl) | (simp only [go_sem]; done) | (simp only [go_sem]; omega) | fail) only [↓reduceIte, ↓jn_eq, Nat.reduceAdd, go_sem, Bool.not_true, Bool.not_false, l1, e, x0, ib]; omega)) _ _).trans ?_ | fail)
   rfl
theorem sindex_am (s : List UInt8) (c : UInt8) : Cl 74 [.str s, .str [c]] [] = some (.int .i64 (Lib.indexByte s c), []) := by
 have ix := idx_am s c
 rw [f74_eq]
 (repeat' with_reducible first | refine (ite_T _ _).trans ?_ | refine (ite_F _ _).trans ?_ | refine (jn_eq _ _).trans ?_ | refine (bstep (by first | rfl | (simp (disch := first | assumption | omega | (with_reducible rfl) | (simp only [go_sem]; done) | (simp only [go_sem]; omega) | fail) only [↓reduceIte, ↓jn_eq, Nat.reduceAdd, go_sem, Bool.not_true, Bool.not_false, ix]; rfl)) _).trans ?_ | refine (if_pos (by first | rfl | (simp (disch := first | assumption | omega | (with_reducible rfl) | (simp only [go_sem]; done) | (simp only [go_sem]; omega) | fail) only [↓reduceIte, ↓jn_eq, Nat.reduceAdd, go_sem, Bool.not_true, Bool.not_false, ix]; done))).trans ?_ | refine (ite_dec (by first | assumption | omega | (simp (disch := first | assumption | omega | (with_reducible rfl) | (simp only [go_sem]; done) | (simp only [go_sem]; omega) | fail) only [↓reduceIte, ↓jn_eq, Nat.reduceAdd, go_sem, Bool.not_true, Bool.not_false, ix]; done) | (simp (disch := first | assumption | omega | (with_reducible rfl) | (simp only [go_sem]; done) | (simp only [go_sem]; omega) | fail) only [↓reduceIte, ↓jn_eq, Nat.reduceAdd, go_sem, Bool.not_true, Bool.not_false, ix]; omega)) _ _).trans ?_ | refine (ite_ndec (by first | assumption | omega | (simp (disch := first | assumption | omega | (with_reducible rfl) | (simp only [go_sem]; done) | (simp only [go_sem]; omega) | fail) only [↓reduceIte, ↓jn_eq, Nat.reduceAdd, go_sem, Bool.not_true, Bool.not_false, ix]; done) | (simp (disch := first | assumption | omega | (with_reducible rfl) | (simp only [go_sem]; done) | (simp only [go_sem]; omega) | fail) only [↓reduceIte, ↓jn_eq, Nat.reduceAdd, go_sem, Bool.not_true, Bool.not_false, ix]; omega)) _ _).trans ?_ | fail)
 rfl
theorem cut_am {a b : List UInt8} {c : UInt8} (hc : c ∉ a) (hl : (a ++ c :: b).length ≤ 1000000) : Cl 35 [.str (a ++ c :: b), .str [c]] [] = some (.tup [.str a, .str b, .bool true], []) := by
 have ix := idx_am (a ++ c :: b) c
 rw [ixB_app a b c hc] at ix
 have s1 : slT (.str (a ++ c :: b)) none (some (.int .i64 (a.length : Int))) = some (.str a) := by
  rw [slT_hi (by simp)]; simp
 have s2 : slT (.str (a ++ c :: b)) (some (.int .i64 ((a.length + 1 : Nat) : Int))) none = some (.str b) := by
  rw [slT_lo (by simp)]
  rw [show a ++ c :: b = (a ++ [c]) ++ b by simp, List.drop_left' (by simp)]
 have l1 : lnS (.str [c]) = some (.int .i64 1) := rfl
 have ad : bin .add (.int .i64 (a.length : Int)) (.int .i64 1) = some (.int .i64 ((a.length + 1 : Nat) : Int)) := by
  have : a.length ≤ 1000000 := by simp at hl; omega
  rw [b_add, wrap_i64 (by omega) (by omega)]; rfl
 have h45 : Cl 45 [.str (a ++ c :: b), .str [c]] [] = some (.tup [.str a, .str b, .bool true], []) := by
  rw [f45_eq]
  generalize a ++ c :: b = s at *
  (repeat' with_reducible first | refine (ite_T _ _).trans ?_ | refine (ite_F _ _).trans ?_ | refine (jn_eq _ _).trans ?_ | refine (bstep (by first | rfl | (simp (disch := first | assumption | omega | (with_reducible rfl) | (simp only [go_sem]; done) | (simp only [go_sem]; omega) | fail) only [↓reduceIte, ↓jn_eq, Nat.reduceAdd, go_sem, Bool.not_true, Bool.not_false, ix, s1, s2, l1, ad]; rfl)) _).trans ?_ | refine (if_pos (by first | rfl | (simp (disch := first | assumption | omega | (with_reducible rfl) | (simp only [go_sem]; done) | (simp only [go_sem]; omega) | fail) only [↓reduceIte, ↓jn_eq, Nat.reduceAdd, go_sem, Bool.not_true, Bool.not_false, ix, s1, s2, l1, ad]; done))).trans ?_ | refine (ite_dec (by first | assumption | omega | (simp (disch := first | assumption | omega | (with_reducible rfl) | (simp only [go_sem]; done) | (simp only [go_sem]; omega) | fail) only [↓reduceIte, ↓jn_eq, Nat.reduceAdd, go_sem, Bool.not_true, Bool.not_false, ix, s1, s2, l1, ad]; done) | (simp (disch := first | assumption | omega | (with_reducible rfl) | (simp only [go_sem]; done) | (simp only [go_sem]; omega) | fail) only [↓reduceIte, ↓jn_eq, Nat.reduceAdd, go_sem, Bool.not_true, Bool.not_false, ix, s1, s2, l1, ad]; omega)) _ _).trans ?_ | refine (ite_ndec (by first | assumption | omega | (simp (disch := first | assumption | omega | (with_reducible rfl) | (simp only [go_sem]; done) | (simp only [go_sem]; omega) | fail) only [↓reduceIte, ↓jn_eq, Nat.reduceAdd, go_sem, Bool.not_true, Bool.not_false, ix, s1, s2, l1, ad]; done) | (simp (disch := first | assumption | omega | (with_reducible rfl) | (simp only [go_sem]; done) | (simp only [go_sem]; omega) | fail) only [↓reduceIte, ↓jn_eq, Nat.reduceAdd, go_sem, Bool.not_true, Bool.not_false, ix, s1, s2, l1, ad]; omega)) _ _).trans ?_ | fail)
  rfl
 rw [f35_eq]
 generalize a ++ c :: b = s at *
 (repeat' with_reducible first | refine (ite_T _ _).trans ?_ | refine (ite_F _ _).trans ?_ | refine (jn_eq _ _).trans ?_ | refine (bstep (by first | rfl | (simp (disch := first | assumption | omega | (with_reducible rfl) | (simp only [go_sem]; done) | (simp only [go_sem]; omega) | fail) only [↓reduceIte, ↓jn_eq, Nat.reduceAdd, go_sem, Bool.not_true, Bool.not_false, h45]; rfl)) _).trans ?_ | refine (if_pos (by first | rfl | (simp (disch := first | assumption | omega | (with_reducible rfl) | (simp only [go_sem]; done) | (simp only [go_sem]; omega) | fail) only [↓reduceIte, ↓jn_eq, Nat.reduceAdd, go_sem, Bool.not_true, Bool.not_false, h45]; done))).trans ?_ | refine (ite_dec (by first | assumption | omega | (simp (disch := first | assumption | omega | (with_reducible rfl) | (simp only [go_sem]; done) | (simp only [go_sem]; omega) | fail) only [↓reduceIte, ↓jn_eq, Nat.reduceAdd, go_sem, Bool.not_true, Bool.not_false, h45]; done) | (simp (disch := first | assumption | omega | (with_reducible rfl) | (simp only [go_sem]; done) | (simp only [go_sem]; omega) | fail) only [↓reduceIte, ↓jn_eq, Nat.reduceAdd, go_sem, Bool.not_true, Bool.not_false, h45]; omega)) _ _).trans ?_ | refine (ite_ndec (by first | assumption | omega | (simp (disch := first | assumption | omega | (with_reducible rfl) | (simp only [go_sem]; done) | (simp only [go_sem]; omega) | fail) only [↓reduceIte, ↓jn_eq, Nat.reduceAdd, go_sem, Bool.not_true, Bool.not_false, h45]; done) | (simp (disch := first | assumption | omega | (with_reducible rfl) | (simp only [go_sem]; done) | (simp only [go_sem]; omega) | fail) only [↓reduceIte, ↓jn_eq, Nat.reduceAdd, go_sem, Bool.not_true, Bool.not_false, h45]; omega)) _ _).trans ?_ | fail)
 rfl
theorem plL_strs' (l : List (List UInt8)) : plL (l.map V.str) = true := plL_map (fun _ => rfl) l
def joinS : List (List UInt8) → List UInt8
 | [] => []
 | [p] => p
 | p :: q :: r => p ++ 32 :: joinS (q :: r)
theorem joinS_cnt : ∀ (ps : List (List UInt8)), ps ≠ [] → (∀ p ∈ ps, (32 : UInt8) ∉ p) → (joinS ps).count 32 + 1 = ps.length
 | [], h, _ => absurd rfl h
 | [p], _, h => by rw [joinS, List.count_eq_zero.2 (h p (by simp))]; rfl
 | p :: q :: r, _, h => by
   have ih := joinS_cnt (q :: r) (by simp) (fun x hx => h x (List.mem_cons_of_mem _ hx))
   rw [joinS, List.count_append, List.count_cons_self, List.count_eq_zero.2 (h p (by simp)), List.length_cons, ← ih]; omega
abbrev rowS (xs : List V) : V := .row 9 xs
theorem split_l0 {K : Nat} (hK : K ≤ 1000) : ∀ (ps : List (List UInt8)) (i : Nat) (done : List (List UInt8)) (rest : List V), ps ≠ [] → (∀ p ∈ ps, (32 : UInt8) ∉ p) → (joinS ps).length ≤ 100000 → i + ps.length = K → done.length = i → rest.length = ps.length →
 f54_l0 (.str (joinS ps)) (.str [32]) (.int .i64 0) (.int .i64 ((K - 1 : Nat) : Int)) (.win 0 [] 0 K 9) (.int .i64 (i : Int)) [rowS (done.map V.str ++ rest)] = some (.lst 9 .sh ((done ++ ps).map V.str), []) := by
 intro ps
 induction ps with
 | nil => intro i done rest h; exact absurd rfl h
 | cons p ps ih =>
   intro i done rest _ hp hj hi hd hr
   obtain ⟨y, ys, rfl⟩ : ∃ y ys, rest = y :: ys := by
    cases rest with
    | nil => simp at hr
    | cons y ys => exact ⟨y, ys, rfl⟩
   rw [List.length_cons, List.length_cons] at hr
   rw [List.length_cons] at hi
   have hset : (done.map V.str ++ y :: ys).set i (.str p) = (done ++ [p]).map V.str ++ ys := by
    rw [List.set_append_right _ _ (by simp; omega)]
    simp [hd]
   have hlen : (done.map V.str ++ y :: ys).length = K := by simp; omega
   have xx : ixS 9 (V.weak (.win 0 [] 0 K 9)) (.int .i64 (i : Int)) = some (.ref 0 [i] 9) := by
    have hin : inside (i : Int) K = true := by simp only [inside, Bool.and_eq_true, decide_eq_true_eq]; omega
    simp only [V.weak, ixS, hin, Int.toNat_natCast, decide_true, Bool.and_self, if_true, List.nil_append, Nat.zero_add]
   have st : stT AM.tyS 9 [rowS (done.map V.str ++ y :: ys)] (.ref 0 [i] 9) (.str p) = some [rowS ((done ++ [p]).map V.str ++ ys)] := by
    rw [stT_p rfl rfl]
    simp only [List.getElem?_cons_zero, Option.bind_some]
    rw [upd_1r (by omega), hset]; rfl
   have ad : bin .add (.int .i64 (i : Int)) (.int .i64 1) = some (.int .i64 ((i + 1 : Nat) : Int)) := by
    rw [b_add, wrap_i64 (by omega) (by omega)]; rfl
   cases ps with
   | nil =>
     obtain rfl : ys = [] := by
      rw [List.length_nil] at hr
      exact List.length_eq_zero_iff.1 (by omega)
     have hi' : i + 1 = K := by simpa using hi
     have ls : bin .lss (.int .i64 (i : Int)) (.int .i64 ((K - 1 : Nat) : Int)) = some (.bool false) := by rw [b_lss, decide_eq_false (by omega)]
     have sl : slL 9 (.win 0 [] 0 K 9) none (some (.int .i64 ((i + 1 : Nat) : Int))) none = some (.win 0 [] 0 K 9) := by
      rw [hi']; simp [slL, bounds]
     have ct : content [rowS ((done ++ [p]).map V.str)] (.win 0 [] 0 K 9) = some ((done ++ [p]).map V.str) := by
      simp only [content, rd, List.getElem?_cons_zero, Option.bind_some, V.at, V.items, Option.map_some, List.drop_zero]
      rw [List.take_of_length_le (by simp; omega)]
     have pl : plL ((done ++ [p]).map V.str) = true := plL_strs' _
     have fn : finT 0 [rowS ((done ++ [p]).map V.str)] (.win 0 [] 0 K 9) = some (.lst 9 .sh ((done ++ [p]).map V.str), []) := by
      have u : V.unmut [rowS ((done ++ [p]).map V.str)] (.win 0 [] 0 K 9) = .lst 9 .sh ((done ++ [p]).map V.str) := by
       simp only [V.unmut, ct, cleanL_pl pl, normL_pl pl, if_true]
      simp only [finT, u]; rfl
     rw [joinS, f54_l0_eq]
     rw [List.append_nil] at st
     generalize (done ++ [p]).map V.str = L at *
     generalize done.map V.str ++ [y] = M at *
     refine (bstep ls _).trans ?_
     rw [ite_F]
     refine (bstep xx _).trans ?_
     refine (bstep st _).trans ?_
     refine (bstep ad _).trans ?_
     refine (bstep sl _).trans ?_
     exact fn
   | cons q r =>
     have h32 : (32 : UInt8) ∉ p := hp p List.mem_cons_self
     rw [joinS] at hj ⊢
     have hjl : (p ++ 32 :: joinS (q :: r)).length = p.length + (joinS (q :: r)).length + 1 := by simp; omega
     have ix := sindex_am (p ++ 32 :: joinS (q :: r)) 32
     rw [ixB_app _ _ _ h32] at ix
     have ih' := ih (i + 1) (done ++ [p]) ys (by simp) (fun x hx => hp x (List.mem_cons_of_mem _ hx)) (by omega) (by simp at hi ⊢; omega) (by simp; omega) (by omega)
     rw [List.append_assoc, List.singleton_append] at ih'
     have ls : bin .lss (.int .i64 (i : Int)) (.int .i64 ((K - 1 : Nat) : Int)) = some (.bool true) := by
      rw [b_lss, decide_eq_true (by simp at hi; omega)]
     have ls0 : bin .lss (.int .i64 (p.length : Int)) (.int .i64 0) = some (.bool false) := by rw [b_lss, decide_eq_false (by omega)]
     have a0 : bin .add (.int .i64 (p.length : Int)) (.int .i64 0) = some (.int .i64 (p.length : Int)) := by
      rw [b_add, wrap_i64 (by omega) (by omega)]; simp
     have a1 : bin .add (.int .i64 (p.length : Int)) (.int .i64 1) = some (.int .i64 ((p.length + 1 : Nat) : Int)) := by
      rw [b_add, wrap_i64 (by omega) (by omega)]; rfl
     have s1 : slT (.str (p ++ 32 :: joinS (q :: r))) none (some (.int .i64 (p.length : Int))) = some (.str p) := by
      rw [slT_hi (by simp)]; simp
     have s2 : slT (.str (p ++ 32 :: joinS (q :: r))) (some (.int .i64 ((p.length + 1 : Nat) : Int))) none = some (.str (joinS (q :: r))) := by
      rw [slT_lo (by simp)]
      rw [show p ++ 32 :: joinS (q :: r) = (p ++ [32]) ++ joinS (q :: r) by simp, List.drop_left' (by simp)]
     have l1 : lnS (.str [32]) = some (.int .i64 1) := rfl
     have ry : ∀ (h : List V) (s : List UInt8), reifyL h [.str s, .str [32]] = [.str s, .str [32]] := fun _ _ => rfl
     rw [← ih', f54_l0_eq]
     clear ih ih'
     generalize p ++ 32 :: joinS (q :: r) = s at *
     generalize joinS (q :: r) = t at *
     generalize rowS (done.map V.str ++ y :: ys) = R1 at *
     generalize rowS ((done ++ [p]).map V.str ++ ys) = R2 at *
     generalize (V.win 0 [] 0 K 9).weak = W0 at *
     refine (bstep ls _).trans ?_
     rw [ite_T]
     rw [ry]
     refine (bstep ix _).trans ?_
     refine (bstep ls0 _).trans ?_
     rw [ite_F]
     refine (bstep a0 _).trans ?_
     refine (bstep s1 _).trans ?_
     refine (bstep xx _).trans ?_
     refine (bstep st _).trans ?_
     refine (bstep l1 _).trans ?_
     refine (bstep a1 _).trans ?_
     refine (bstep s2 _).trans ?_
     refine (bstep ad _).trans ?_
     rfl
theorem count_am (s : List UInt8) : Cl 73 [.str s, .str [32]] [] = some (.int .i64 (s.count 32 : Int), []) := by
 have l1 : lnS (.str [32]) = some (.int .i64 1) := rfl
 have x0 : ixT (.str [32]) (.int .i64 0) = some (.int .u8 32) := rfl
 have mz : ∀ k : V → List V → Rv, mnz P 2 93 [.str s, .int .u8 32] [] k = k (.int .i64 (s.count 32 : Int)) [] := fun k => by
  simp only [mnz, natI]; rfl
 rw [f73_eq]
 (repeat' with_reducible first | refine (ite_T _ _).trans ?_ | refine (ite_F _ _).trans ?_ | refine (jn_eq _ _).trans ?_ | refine (bstep (by first | rfl | (simp (disch := first | assumption | omega | (with_reducible rfl) | (simp only [go_sem]; done) | (simp only [go_sem]; omega) | fail) only [↓reduceIte, ↓jn_eq, Nat.reduceAdd, go_sem, Bool.not_true, Bool.not_false, l1, x0]; rfl)) _).trans ?_ | refine (if_pos (by first | rfl | (simp (disch := first | assumption | omega | (with_reducible rfl) | (simp only [go_sem]; done) | (simp only [go_sem]; omega) | fail) only [↓reduceIte, ↓jn_eq, Nat.reduceAdd, go_sem, Bool.not_true, Bool.not_false, l1, x0]; done))).trans ?_ | refine (ite_dec (by first | assumption | omega | (simp (disch := first | assumption | omega | (with_reducible rfl) | (simp only [go_sem]; done) | (simp only [go_sem]; omega) | fail) only [↓reduceIte, ↓jn_eq, Nat.reduceAdd, go_sem, Bool.not_true, Bool.not_false, l1, x0]; done) | (simp (disch := first | assumption | omega | (with_reducible rfl) | (simp only [go_sem]; done) | (simp only [go_sem]; omega) | fail) only [↓reduceIte, ↓jn_eq, Nat.reduceAdd, go_sem, Bool.not_true, Bool.not_false, l1, x0]; omega)) _ _).trans ?_ | refine (ite_ndec (by first | assumption | omega | (simp (disch := first | assumption | omega | (with_reducible rfl) | (simp only [go_sem]; done) | (simp only [go_sem]; omega) | fail) only [↓reduceIte, ↓jn_eq, Nat.reduceAdd, go_sem, Bool.not_true, Bool.not_false, l1, x0]; done) | (simp (disch := first | assumption | omega | (with_reducible rfl) | (simp only [go_sem]; done) | (simp only [go_sem]; omega) | fail) only [↓reduceIte, ↓jn_eq, Nat.reduceAdd, go_sem, Bool.not_true, Bool.not_false, l1, x0]; omega)) _ _).trans ?_ | fail)
 rw [mz]
 rfl
theorem split_am {ps : List (List UInt8)} (hn : ps ≠ []) (hp : ∀ p ∈ ps, (32 : UInt8) ∉ p) (hj : (joinS ps).length ≤ 100000) (hK : ps.length ≤ 1000) : Cl 46 [.str (joinS ps), .str [32]] [] = some (.lst 9 .sh (ps.map V.str), []) := by
 have hpos : 0 < ps.length := List.length_pos_iff.2 hn
 have cn := joinS_cnt ps hn hp
 have hcl : (joinS ps).count 32 ≤ (joinS ps).length := List.count_le_length
 have ct := count_am (joinS ps)
 have h0 := split_l0 hK ps 0 [] (List.replicate ps.length (.str [])) hn hp hj (by omega) rfl (by simp)
 simp only [List.map_nil, List.nil_append] at h0
 have g : Cl 54 [.str (joinS ps), .str [32], .int .i64 0, .int .i64 (-1)] [] = some (.lst 9 .sh (ps.map V.str), []) := by
  have a1 : bin .add (.int .i64 ((joinS ps).count 32 : Int)) (.int .i64 1) = some (.int .i64 (ps.length : Int)) := by
   rw [b_add, wrap_i64 (by omega) (by omega)]; congr 2; omega
  have a2 : bin .add (.int .i64 ((joinS ps).length : Int)) (.int .i64 1) = some (.int .i64 (((joinS ps).length + 1 : Nat) : Int)) := by
   rw [b_add, wrap_i64 (by omega) (by omega)]; rfl
  have mi : minV (.int .i64 (ps.length : Int)) (.int .i64 (((joinS ps).length + 1 : Nat) : Int)) = some (.int .i64 (ps.length : Int)) := by
   simp only [minV, if_true]; rw [if_neg (by omega)]
  have mk : mkL 9 (.str []) (.int .i64 (ps.length : Int)) (.int .i64 (ps.length : Int)) = some (.lst 9 .own (List.replicate ps.length (.str []))) := by
   simp only [mkL]; rw [if_pos (by omega)]; simp
  have tb : toBox [] (.lst 9 .own (List.replicate ps.length (.str []))) = some (.win 0 [] 0 ps.length 9, [rowS (List.replicate ps.length (.str []))]) := by
   simp [toBox]
  have sb : bin .sub (.int .i64 (ps.length : Int)) (.int .i64 1) = some (.int .i64 ((ps.length - 1 : Nat) : Int)) := by
   rw [b_sub, wrap_i64 (by omega) (by omega)]; congr 2; omega
  have z1 : bin .eql (.int .i64 (-1)) (.int .i64 0) = some (.bool false) := rfl
  have z2 : bin .eql (.str [32]) (.str []) = some (.bool false) := rfl
  have z3 : bin .lss (.int .i64 (-1)) (.int .i64 0) = some (.bool true) := rfl
  have l0 : lnS (.str (joinS ps)) = some (.int .i64 ((joinS ps).length : Int)) := rfl
  rw [f54_eq]
  generalize joinS ps = s at *
  generalize List.replicate ps.length (V.str []) = Z at *
  generalize f54_l0 = L at *
  (repeat' with_reducible first | refine (ite_T _ _).trans ?_ | refine (ite_F _ _).trans ?_ | refine (jn_eq _ _).trans ?_ | refine (bstep (by first | rfl | (simp (disch := first | assumption | omega | (with_reducible rfl) | (simp only [go_sem]; done) | (simp only [go_sem]; omega) | fail) only [↓reduceIte, ↓jn_eq, Nat.reduceAdd, go_sem, Bool.not_true, Bool.not_false, z1, z2, z3, ct, a1, a2, l0, mi, mk, tb, sb]; rfl)) _).trans ?_ | refine (if_pos (by first | rfl | (simp (disch := first | assumption | omega | (with_reducible rfl) | (simp only [go_sem]; done) | (simp only [go_sem]; omega) | fail) only [↓reduceIte, ↓jn_eq, Nat.reduceAdd, go_sem, Bool.not_true, Bool.not_false, z1, z2, z3, ct, a1, a2, l0, mi, mk, tb, sb]; done))).trans ?_ | refine (ite_dec (by first | assumption | omega | (simp (disch := first | assumption | omega | (with_reducible rfl) | (simp only [go_sem]; done) | (simp only [go_sem]; omega) | fail) only [↓reduceIte, ↓jn_eq, Nat.reduceAdd, go_sem, Bool.not_true, Bool.not_false, z1, z2, z3, ct, a1, a2, l0, mi, mk, tb, sb]; done) | (simp (disch := first | assumption | omega | (with_reducible rfl) | (simp only [go_sem]; done) | (simp only [go_sem]; omega) | fail) only [↓reduceIte, ↓jn_eq, Nat.reduceAdd, go_sem, Bool.not_true, Bool.not_false, z1, z2, z3, ct, a1, a2, l0, mi, mk, tb, sb]; omega)) _ _).trans ?_ | refine (ite_ndec (by first | assumption | omega | (simp (disch := first | assumption | omega | (with_reducible rfl) | (simp only [go_sem]; done) | (simp only [go_sem]; omega) | fail) only [↓reduceIte, ↓jn_eq, Nat.reduceAdd, go_sem, Bool.not_true, Bool.not_false, z1, z2, z3, ct, a1, a2, l0, mi, mk, tb, sb]; done) | (simp (disch := first | assumption | omega | (with_reducible rfl) | (simp only [go_sem]; done) | (simp only [go_sem]; omega) | fail) only [↓reduceIte, ↓jn_eq, Nat.reduceAdd, go_sem, Bool.not_true, Bool.not_false, z1, z2, z3, ct, a1, a2, l0, mi, mk, tb, sb]; omega)) _ _).trans ?_ | fail)
  exact h0
 rw [f46_eq]
 generalize joinS ps = s at *
 (repeat' with_reducible first | refine (ite_T _ _).trans ?_ | refine (ite_F _ _).trans ?_ | refine (jn_eq _ _).trans ?_ | refine (bstep (by first | rfl | (simp (disch := first | assumption | omega | (with_reducible rfl) | (simp only [go_sem]; done) | (simp only [go_sem]; omega) | fail) only [↓reduceIte, ↓jn_eq, Nat.reduceAdd, go_sem, Bool.not_true, Bool.not_false, g]; rfl)) _).trans ?_ | refine (if_pos (by first | rfl | (simp (disch := first | assumption | omega | (with_reducible rfl) | (simp only [go_sem]; done) | (simp only [go_sem]; omega) | fail) only [↓reduceIte, ↓jn_eq, Nat.reduceAdd, go_sem, Bool.not_true, Bool.not_false, g]; done))).trans ?_ | refine (ite_dec (by first | assumption | omega | (simp (disch := first | assumption | omega | (with_reducible rfl) | (simp only [go_sem]; done) | (simp only [go_sem]; omega) | fail) only [↓reduceIte, ↓jn_eq, Nat.reduceAdd, go_sem, Bool.not_true, Bool.not_false, g]; done) | (simp (disch := first | assumption | omega | (with_reducible rfl) | (simp only [go_sem]; done) | (simp only [go_sem]; omega) | fail) only [↓reduceIte, ↓jn_eq, Nat.reduceAdd, go_sem, Bool.not_true, Bool.not_false, g]; omega)) _ _).trans ?_ | refine (ite_ndec (by first | assumption | omega | (simp (disch := first | assumption | omega | (with_reducible rfl) | (simp only [go_sem]; done) | (simp only [go_sem]; omega) | fail) only [↓reduceIte, ↓jn_eq, Nat.reduceAdd, go_sem, Bool.not_true, Bool.not_false, g]; done) | (simp (disch := first | assumption | omega | (with_reducible rfl) | (simp only [go_sem]; done) | (simp only [go_sem]; omega) | fail) only [↓reduceIte, ↓jn_eq, Nat.reduceAdd, go_sem, Bool.not_true, Bool.not_false, g]; omega)) _ _).trans ?_ | fail)
 rfl
end Go.Proofs.YtaghnpjlhmgioaaDoor
end

section
set_option linter.unusedVariables false
namespace Go.Proofs.YtaghnpjlhmgioaaDoor
open Go AM
theorem br_d {B : Type} {p : Prop} [Decidable p] {a b : Option B} {r : Option B} (h : p → a = r) (h2 : ¬ p → b = r) : V.ite (.bool (decide p)) a b = r := by
 by_cases hp : p
 · rw [decide_eq_true hp]; exact h hp
 · rw [decide_eq_false hp]; exact h2 hp
theorem br_b {B : Type} {p : Bool} {a b : Option B} {r : Option B} (h : p = true → a = r) (h2 : p = false → b = r) : V.ite (.bool p) a b = r := by
 cases p
 · exact h2 rfl
 · exact h rfl
@[go_sem] theorem capOk_ref (id : Nat) (p : List Nat) (t : TypeId) : V.capOk (.ref id p t) = true := (rfl)
@[go_sem] theorem ite_true' {B : Type} (a b : B) : (if (true : Bool) = true then a else b) = a := (rfl)
theorem callV_np2 {R : Type} {f : FuncId} {cs vs h : List V} (k : V → List V → Option R) (he : ann.ext f = false) (hp : ann.pure f = false) {r : V} {h' : List V} (e : Cl f (normL (vs ++ cs)) h = some (r, h')) (hs : (ann.seq f).1 = 0 := by kernel_rfl) : callV P ann W (.clo f cs) vs h k = k r h' := by
 rw [callV_np k he hp hs, e]; rfl
end Go.Proofs.YtaghnpjlhmgioaaDoor
end
