/-
  Part of the proof of a statement about the given program: an abstract machine over its code, the simulation, its functions' equations, what they compute.
-/
import Derived.IntWalk
import Derived.Test.YtaghnpjlhmgioaaDoorMg3
set_option linter.unusedVariables false
set_option linter.unusedSimpArgs false
set_option linter.unusedSectionVars false
noncomputable section
namespace Go.Proofs.YtaghnpjlhmgioaaDoor
section
namespace AM
open Go
theorem Ad {n:Int} (h1: -9223372036854775808≤n) (h2:n<9223372036854775808):IntKind.wrap .i64 n=n:=IntWalk.i64_in n ⟨h1,by omega⟩
theorem ET {n:Int} (h1:0≤n) (h2:n<18446744073709551616):IntKind.wrap .u64 n=n:=by
 simp only[IntKind.wrap,IntKind.bits,IntKind.signed];simp;omega
theorem Xn {n:Int} (h1:0≤n) (h2:n<256):IntKind.wrap .u8 n=n:=by
 simp only[IntKind.wrap,IntKind.bits,IntKind.signed];simp;omega
theorem TT (n:Nat):IntKind.wrap .u64 (n:Int)=((n%18446744073709551616:Nat):Int):=by
 simp only[IntKind.wrap,IntKind.bits,IntKind.signed];simp
theorem Ub (n:Nat):IntKind.wrap .u8 (n:Int)=((n%256:Nat):Int):=by
 simp only[IntKind.wrap,IntKind.bits,IntKind.signed];simp
section
variable {R:Type}
end
theorem DZ (k:IntKind) (a b:Int):AL .add (.int k a) (.int k b)=some (.int k (k.wrap (a+b))):=by simp[AL]
theorem Lr (k:IntKind) (a b:Int):AL .sub (.int k a) (.int k b)=some (.int k (k.wrap (a-b))):=by simp[AL]
theorem ABa (k:IntKind) (a b:Int):AL .mul (.int k a) (.int k b)=some (.int k (k.wrap (a*b))):=by simp[AL]
theorem b_lss (k:IntKind) (a b:Int):AL .lss (.int k a) (.int k b)=some (.bool (decide (a<b))):=by simp[AL,UQ]
theorem b_leq (k:IntKind) (a b:Int):AL .leq (.int k a) (.int k b)=some (.bool (decide (a≤b))):=by simp[AL,UQ]
theorem b_gtr (k:IntKind) (a b:Int):AL .gtr (.int k a) (.int k b)=some (.bool (decide (b<a))):=by simp[AL,UQ]
theorem b_geq (k:IntKind) (a b:Int):AL .geq (.int k a) (.int k b)=some (.bool (decide (b≤a))):=by simp[AL,UQ]
theorem b_eql (k:IntKind) (a b:Int):AL .eql (.int k a) (.int k b)=some (.bool (decide (a=b))):=by
 simp only[AL,UQ];by_cases h:a=b<;>simp[h]
theorem b_neq (k:IntKind) (a b:Int):AL .neq (.int k a) (.int k b)=some (.bool (decide (a≠b))):=by
 simp only[AL,UQ];by_cases h:a=b<;>simp[h,bne]
theorem Ls (k:IntKind) (a b:Int) (h:b≠0):AL .quo (.int k a) (.int k b)=some (.int k (k.wrap (a.tdiv b))):=by simp[AL,h]
theorem AHC (k:IntKind) (a b:Int) (h:b≠0):AL .rem (.int k a) (.int k b)=some (.int k (a.tmod b)):=by simp[AL,h]
theorem AHD (k k':IntKind) (a b:Int) (h:0≤b):AL .shl (.int k a) (.int k' b)=some (.int k (k.wrap (a*2^(min b.toNat k.bits)))):=by
 simp only[AL];rw[if_neg (by omega)]
theorem AHE (k k':IntKind) (a b:Int) (h:0≤b):AL .shr (.int k a) (.int k' b)=some (.int k (a.fdiv (2^(min b.toNat k.bits)))):=by
 simp only[AL];rw[if_neg (by omega)]
theorem AHF (k:IntKind) (a b:Int):AL .and (.int k a) (.int k b)=some (.int k (k.wrap ((BitVec.ofInt k.bits a&&& BitVec.ofInt k.bits b).toNat))):=by simp[AL]
theorem AHG (k:IntKind) (a b:Int):AL .xor (.int k a) (.int k b)=some (.int k (k.wrap ((BitVec.ofInt k.bits a ^^^ BitVec.ofInt k.bits b).toNat))):=by simp[AL]
def IntKind.lim:IntKind→Nat
 | .u8=>256
 | .u16=>65536
 | .u32=>4294967296
 |_=>18446744073709551616
theorem AFl {w a b:Nat} (ha:a<2^w) (hb:b<2^w):(BitVec.ofNat w a&&& BitVec.ofNat w b).toNat=a&&& b:=by
 rw[BitVec.toNat_and,BitVec.toNat_ofNat,BitVec.toNat_ofNat,Nat.mod_eq_of_lt ha,Nat.mod_eq_of_lt hb]
theorem AFm {w a b:Nat} (ha:a<2^w) (hb:b<2^w):(BitVec.ofNat w a ^^^ BitVec.ofNat w b).toNat=a ^^^ b:=by
 rw[BitVec.toNat_xor,BitVec.toNat_ofNat,BitVec.toNat_ofNat,Nat.mod_eq_of_lt ha,Nat.mod_eq_of_lt hb]
theorem Ih (w n:Nat):BitVec.ofInt w (n:Int)=BitVec.ofNat w n:=by simp
theorem ADI {a b:Nat} (ha:a<18446744073709551616) (hb:b<18446744073709551616):AL .and (.int .u64 a) (.int .u64 b)=some (.int .u64 ((a&&& b:Nat):Int)):=by
 rw[AHF,Ih,Ih]
 have:(a&&& b)<18446744073709551616:=Nat.lt_of_le_of_lt Nat.and_le_left ha
 have e:(BitVec.ofNat (IntKind.u64).bits a&&& BitVec.ofNat (IntKind.u64).bits b).toNat=a&&& b:=AFl (by simpa [IntKind.bits]using ha) (by simpa [IntKind.bits]using hb)
 rw[e,ET (by omega) (by omega)]
theorem ADJ {a b:Nat} (ha:a<18446744073709551616) (hb:b<18446744073709551616):AL .xor (.int .u64 a) (.int .u64 b)=some (.int .u64 ((a ^^^ b:Nat):Int)):=by
 rw[AHG,Ih,Ih]
 have:(a ^^^ b)<18446744073709551616:=Nat.xor_lt_two_pow (n:=64) ha hb
 have e:(BitVec.ofNat (IntKind.u64).bits a ^^^ BitVec.ofNat (IntKind.u64).bits b).toNat=a ^^^ b:=AFm (by simpa [IntKind.bits]using ha) (by simpa [IntKind.bits]using hb)
 rw[e,ET (by omega) (by omega)]
theorem s_eql (a b:List UInt8):AL .eql (.str a) (.str b)=some (.bool (decide (a=b))):=by
 simp only[AL];congr 2;by_cases h:a=b<;>simp[h]
theorem s_neq (a b:List UInt8):AL .neq (.str a) (.str b)=some (.bool (decide (a≠b))):=by
 simp only[AL];congr 2;by_cases h:a=b<;>simp[h]
theorem QS (a b:List UInt8) (h:a.length+b.length≤4611686018427387904):AL .add (.str a) (.str b)=some (.str (a++b)):=by
 have e:(2:Nat)^62=4611686018427387904:=by decide
 simp only[AL,e,if_pos h]
section
variable {P:Program}
theorem ADK {t:TypeId} (h:P.underlying t=some .string) {s:List UInt8} {k:IntKind} {i:Nat} {b:UInt8} (hb:s[i]?=some b):KW P t (.str s) (.int k (i:Int))=some (.int .u8 b.toNat):=by
 have hi:i<s.length:=by
  rcases Nat.lt_or_ge i s.length with h'|h'
  ·exact h'
  ·rw[List.getElem?_eq_none h']at hb;cases hb
 have e:Bz (i:Int) s.length=true:=by simp[Bz,hi]
 simp only[KW,h,e,if_true,Int.toNat_natCast,hb,Option.map_some]
theorem Fv {h:List V} {src dst:TypeId} {k k':IntKind} (hd:P.underlying dst=some (.int k)) (n:Int):conv P h src dst (.int k' n)=some (.int k (k.wrap n)):=by simp[conv,hd]
end
end AM
end
end Go.Proofs.YtaghnpjlhmgioaaDoor
