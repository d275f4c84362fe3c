/-
  Part of the proof of a statement about the given program: an abstract machine over its code, the simulation, its functions' equations, what they compute.
-/
import Derived.IntWalk
import Derived.Test.YtaghnpjlhmgioaaDoorMg3
section
set_option linter.unusedVariables false
namespace Go.Proofs.YtaghnpjlhmgioaaDoor
namespace AM
open Go
theorem wrap_i64 {n : Int} (h1 : -9223372036854775808 ≤ n) (h2 : n < 9223372036854775808) : IntKind.wrap .i64 n = n := IntWalk.i64_in n ⟨h1, by omega⟩
theorem wrap_u64 {n : Int} (h1 : 0 ≤ n) (h2 : n < 18446744073709551616) : IntKind.wrap .u64 n = n := by
 simp only [IntKind.wrap, IntKind.bits, IntKind.signed]; simp; omega
theorem wrap_u8 {n : Int} (h1 : 0 ≤ n) (h2 : n < 256) : IntKind.wrap .u8 n = n := by
 simp only [IntKind.wrap, IntKind.bits, IntKind.signed]; simp; omega
theorem wrap_u64_mod (n : Nat) : IntKind.wrap .u64 (n : Int) = ((n % 18446744073709551616 : Nat) : Int) := by
 simp only [IntKind.wrap, IntKind.bits, IntKind.signed]; simp
theorem wrap_u8_mod (n : Nat) : IntKind.wrap .u8 (n : Int) = ((n % 256 : Nat) : Int) := by
 simp only [IntKind.wrap, IntKind.bits, IntKind.signed]; simp
section
variable {R : Type}
end
theorem b_add (k : IntKind) (a b : Int) : bin .add (.int k a) (.int k b) = some (.int k (k.wrap (a + b))) := by simp [bin]
theorem b_sub (k : IntKind) (a b : Int) : bin .sub (.int k a) (.int k b) = some (.int k (k.wrap (a - b))) := by simp [bin]
theorem b_mul (k : IntKind) (a b : Int) : bin .mul (.int k a) (.int k b) = some (.int k (k.wrap (a * b))) := by simp [bin]
theorem b_lss (k : IntKind) (a b : Int) : bin .lss (.int k a) (.int k b) = some (.bool (decide (a < b))) := by simp [bin, cmpI]
theorem b_leq (k : IntKind) (a b : Int) : bin .leq (.int k a) (.int k b) = some (.bool (decide (a ≤ b))) := by simp [bin, cmpI]
theorem b_gtr (k : IntKind) (a b : Int) : bin .gtr (.int k a) (.int k b) = some (.bool (decide (b < a))) := by simp [bin, cmpI]
theorem b_geq (k : IntKind) (a b : Int) : bin .geq (.int k a) (.int k b) = some (.bool (decide (b ≤ a))) := by simp [bin, cmpI]
theorem b_eql (k : IntKind) (a b : Int) : bin .eql (.int k a) (.int k b) = some (.bool (decide (a = b))) := by
 simp only [bin, cmpI]; by_cases h : a = b <;> simp [h]
theorem b_neq (k : IntKind) (a b : Int) : bin .neq (.int k a) (.int k b) = some (.bool (decide (a ≠ b))) := by
 simp only [bin, cmpI]; by_cases h : a = b <;> simp [h, bne]
theorem b_quo (k : IntKind) (a b : Int) (h : b ≠ 0) : bin .quo (.int k a) (.int k b) = some (.int k (k.wrap (a.tdiv b))) := by simp [bin, h]
theorem b_rem (k : IntKind) (a b : Int) (h : b ≠ 0) : bin .rem (.int k a) (.int k b) = some (.int k (a.tmod b)) := by simp [bin, h]
theorem b_shl (k k' : IntKind) (a b : Int) (h : 0 ≤ b) : bin .shl (.int k a) (.int k' b) = some (.int k (k.wrap (a * 2 ^ (min b.toNat k.bits)))) := by
 simp only [bin]; rw [if_neg (by omega)]
theorem b_shr (k k' : IntKind) (a b : Int) (h : 0 ≤ b) : bin .shr (.int k a) (.int k' b) = some (.int k (a.fdiv (2 ^ (min b.toNat k.bits)))) := by
 simp only [bin]; rw [if_neg (by omega)]
theorem b_and (k : IntKind) (a b : Int) : bin .and (.int k a) (.int k b) = some (.int k (k.wrap ((BitVec.ofInt k.bits a &&& BitVec.ofInt k.bits b).toNat))) := by simp [bin]
theorem b_xor (k : IntKind) (a b : Int) : bin .xor (.int k a) (.int k b) = some (.int k (k.wrap ((BitVec.ofInt k.bits a ^^^ BitVec.ofInt k.bits b).toNat))) := by simp [bin]
def IntKind.lim : IntKind → Nat
 | .u8 => 256
 | .u16 => 65536
 | .u32 => 4294967296
 | _ => 18446744073709551616
theorem bv_and {w a b : Nat} (ha : a < 2 ^ w) (hb : b < 2 ^ w) : (BitVec.ofNat w a &&& BitVec.ofNat w b).toNat = a &&& b := by
 rw [BitVec.toNat_and, BitVec.toNat_ofNat, BitVec.toNat_ofNat, Nat.mod_eq_of_lt ha, Nat.mod_eq_of_lt hb]
theorem bv_xor {w a b : Nat} (ha : a < 2 ^ w) (hb : b < 2 ^ w) : (BitVec.ofNat w a ^^^ BitVec.ofNat w b).toNat = a ^^^ b := by
 rw [BitVec.toNat_xor, BitVec.toNat_ofNat, BitVec.toNat_ofNat, Nat.mod_eq_of_lt ha, Nat.mod_eq_of_lt hb]
theorem ofInt_nat (w n : Nat) : BitVec.ofInt w (n : Int) = BitVec.ofNat w n := by simp
theorem u64_and {a b : Nat} (ha : a < 18446744073709551616) (hb : b < 18446744073709551616) : bin .and (.int .u64 a) (.int .u64 b) = some (.int .u64 ((a &&& b : Nat) : Int)) := by
 rw [b_and, ofInt_nat, ofInt_nat]
 have : (a &&& b) < 18446744073709551616 := Nat.lt_of_le_of_lt Nat.and_le_left ha
 have e : (BitVec.ofNat (IntKind.u64).bits a &&& BitVec.ofNat (IntKind.u64).bits b).toNat = a &&& b := bv_and (by simpa [IntKind.bits] using ha) (by simpa [IntKind.bits] using hb)
 rw [e, wrap_u64 (by omega) (by omega)]
theorem u64_xor {a b : Nat} (ha : a < 18446744073709551616) (hb : b < 18446744073709551616) : bin .xor (.int .u64 a) (.int .u64 b) = some (.int .u64 ((a ^^^ b : Nat) : Int)) := by
 rw [b_xor, ofInt_nat, ofInt_nat]
 have : (a ^^^ b) < 18446744073709551616 := Nat.xor_lt_two_pow (n := 64) ha hb
 have e : (BitVec.ofNat (IntKind.u64).bits a ^^^ BitVec.ofNat (IntKind.u64).bits b).toNat = a ^^^ b := bv_xor (by simpa [IntKind.bits] using ha) (by simpa [IntKind.bits] using hb)
 rw [e, wrap_u64 (by omega) (by omega)]
theorem s_eql (a b : List UInt8) : bin .eql (.str a) (.str b) = some (.bool (decide (a = b))) := by
 simp only [bin]; congr 2; by_cases h : a = b <;> simp [h]
theorem s_neq (a b : List UInt8) : bin .neq (.str a) (.str b) = some (.bool (decide (a ≠ b))) := by
 simp only [bin]; congr 2; by_cases h : a = b <;> simp [h]
theorem s_add (a b : List UInt8) (h : a.length + b.length ≤ 4611686018427387904) : bin .add (.str a) (.str b) = some (.str (a ++ b)) := by
 have e : (2 : Nat) ^ 62 = 4611686018427387904 := by decide
 simp only [bin, e, if_pos h]
section
variable {P : Program}
theorem idx_str {t : TypeId} (h : P.underlying t = some .string) {s : List UInt8} {k : IntKind} {i : Nat} {b : UInt8} (hb : s[i]? = some b) : indexV P t (.str s) (.int k (i : Int)) = some (.int .u8 b.toNat) := by
 have hi : i < s.length := by
  rcases Nat.lt_or_ge i s.length with h' | h'
  · exact h'
  · rw [List.getElem?_eq_none h'] at hb; cases hb
 have e : inside (i : Int) s.length = true := by simp [inside, hi]
 simp only [indexV, h, e, if_true, Int.toNat_natCast, hb, Option.map_some]
theorem conv_int {h : List V} {src dst : TypeId} {k k' : IntKind} (hd : P.underlying dst = some (.int k)) (n : Int) : conv P h src dst (.int k' n) = some (.int k (k.wrap n)) := by simp [conv, hd]
end
end AM
end Go.Proofs.YtaghnpjlhmgioaaDoor
end
