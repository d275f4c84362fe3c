/-
  Part of the proof of a statement about the given program: an abstract machine over its code, the simulation, its functions' equations, what they compute.
-/
import Derived.IntWalk
import Derived.Test.YtphoocnlpnnkdaaGreatDoorMg3
set_option linter.unusedVariables false
set_option linter.unusedSimpArgs false
set_option linter.unusedSectionVars false
noncomputable section
namespace Go.Proofs.YtphoocnlpnnkdaaGreatDoor
section
namespace AM
open Go
theorem wrap_i64 {n:Int} (h1: -9223372036854775808≤n) (h2:n<9223372036854775808):IntKind.wrap .i64 n=n:=IntWalk.i64_in n ⟨h1,by omega⟩
theorem wrap_u64 {n:Int} (h1:0≤n) (h2:n<18446744073709551616):IntKind.wrap .u64 n=n:=by
 simp only[IntKind.wrap,IntKind.bits,IntKind.signed];simp;omega
theorem wrap_u32 {n:Int} (h1:0≤n) (h2:n<4294967296):IntKind.wrap .u32 n=n:=by
 simp only[IntKind.wrap,IntKind.bits,IntKind.signed];simp;omega
theorem wrap_u8 {n:Int} (h1:0≤n) (h2:n<256):IntKind.wrap .u8 n=n:=by
 simp only[IntKind.wrap,IntKind.bits,IntKind.signed];simp;omega
theorem Io (n:Nat):IntKind.wrap .u32 (n:Int)=((n%4294967296:Nat):Int):=by
 simp only[IntKind.wrap,IntKind.bits,IntKind.signed];simp
theorem JW (n:Nat):IntKind.wrap .u8 (n:Int)=((n%256:Nat):Int):=by
 simp only[IntKind.wrap,IntKind.bits,IntKind.signed];simp
section
variable {R:Type}
theorem ASE (a b:Option R):V.ite (.bool true) a b=a:=rfl
theorem ASF (a b:Option R):V.ite (.bool false) a b=b:=rfl
theorem Gm (p:Prop) [Decidable p] (a b:Option R):V.ite (.bool (decide p)) a b=if p then a else b:=by by_cases h:p<;>simp[h,V.ite]
end
theorem Bq (k:IntKind) (a b:Int):AL .add (.int k a) (.int k b)=some (.int k (k.wrap (a+b))):=by simp[AL]
theorem Ku (k:IntKind) (a b:Int):AL .sub (.int k a) (.int k b)=some (.int k (k.wrap (a-b))):=by simp[AL]
theorem RG (k:IntKind) (a b:Int):AL .mul (.int k a) (.int k b)=some (.int k (k.wrap (a*b))):=by simp[AL]
theorem b_lss (k:IntKind) (a b:Int):AL .lss (.int k a) (.int k b)=some (.bool (decide (a<b))):=by simp[AL,Xg]
theorem b_leq (k:IntKind) (a b:Int):AL .leq (.int k a) (.int k b)=some (.bool (decide (a≤b))):=by simp[AL,Xg]
theorem b_gtr (k:IntKind) (a b:Int):AL .gtr (.int k a) (.int k b)=some (.bool (decide (b<a))):=by simp[AL,Xg]
theorem b_geq (k:IntKind) (a b:Int):AL .geq (.int k a) (.int k b)=some (.bool (decide (b≤a))):=by simp[AL,Xg]
theorem b_eql (k:IntKind) (a b:Int):AL .eql (.int k a) (.int k b)=some (.bool (decide (a=b))):=by
 simp only[AL,Xg];by_cases h:a=b<;>simp[h]
theorem b_neq (k:IntKind) (a b:Int):AL .neq (.int k a) (.int k b)=some (.bool (decide (a≠b))):=by
 simp only[AL,Xg];by_cases h:a=b<;>simp[h,bne]
theorem YS (k:IntKind) (a b:Int) (h:b≠0):AL .quo (.int k a) (.int k b)=some (.int k (k.wrap (a.tdiv b))):=by simp[AL,h]
theorem MH (k:IntKind) (a b:Int) (h:b≠0):AL .rem (.int k a) (.int k b)=some (.int k (a.tmod b)):=by simp[AL,h]
theorem AHR (k k':IntKind) (a b:Int) (h:0≤b):AL .shl (.int k a) (.int k' b)=some (.int k (k.wrap (a*2^(min b.toNat k.bits)))):=by
 simp only[AL];rw[if_neg (by omega)]
theorem UQ (k k':IntKind) (a b:Int) (h:0≤b):AL .shr (.int k a) (.int k' b)=some (.int k (a.fdiv (2^(min b.toNat k.bits)))):=by
 simp only[AL];rw[if_neg (by omega)]
theorem AHS (k:IntKind) (a b:Int):AL .and (.int k a) (.int k b)=some (.int k (k.wrap ((BitVec.ofInt k.bits a&&& BitVec.ofInt k.bits b).toNat))):=by simp[AL]
theorem APZ (k:IntKind) (a b:Int):AL .or (.int k a) (.int k b)=some (.int k (k.wrap ((BitVec.ofInt k.bits a|||BitVec.ofInt k.bits b).toNat))):=by simp[AL]
theorem ACt (k:IntKind) (a b:Int):AL .xor (.int k a) (.int k b)=some (.int k (k.wrap ((BitVec.ofInt k.bits a ^^^ BitVec.ofInt k.bits b).toNat))):=by simp[AL]
def IntKind.lim:IntKind→Nat
 | .u8=>256
 | .u16=>65536
 | .u32=>4294967296
 |_=>18446744073709551616
theorem AAV {w a b:Nat} (ha:a<2^w) (hb:b<2^w):(BitVec.ofNat w a&&& BitVec.ofNat w b).toNat=a&&& b:=by
 rw[BitVec.toNat_and,BitVec.toNat_ofNat,BitVec.toNat_ofNat,Nat.mod_eq_of_lt ha,Nat.mod_eq_of_lt hb]
theorem AHT {w a b:Nat} (ha:a<2^w) (hb:b<2^w):(BitVec.ofNat w a|||BitVec.ofNat w b).toNat=a|||b:=by
 rw[BitVec.toNat_or,BitVec.toNat_ofNat,BitVec.toNat_ofNat,Nat.mod_eq_of_lt ha,Nat.mod_eq_of_lt hb]
theorem AHU {w a b:Nat} (ha:a<2^w) (hb:b<2^w):(BitVec.ofNat w a ^^^ BitVec.ofNat w b).toNat=a ^^^ b:=by
 rw[BitVec.toNat_xor,BitVec.toNat_ofNat,BitVec.toNat_ofNat,Nat.mod_eq_of_lt ha,Nat.mod_eq_of_lt hb]
theorem Bo (w n:Nat):BitVec.ofInt w (n:Int)=BitVec.ofNat w n:=by simp
theorem u64_and {a b:Nat} (ha:a<18446744073709551616) (hb:b<18446744073709551616):AL .and (.int .u64 a) (.int .u64 b)=some (.int .u64 ((a&&& b:Nat):Int)):=by
 rw[AHS,Bo,Bo]
 have:(a&&& b)<18446744073709551616:=Nat.lt_of_le_of_lt Nat.and_le_left ha
 have e:(BitVec.ofNat (IntKind.u64).bits a&&& BitVec.ofNat (IntKind.u64).bits b).toNat=a&&& b:=AAV (by simpa [IntKind.bits]using ha) (by simpa [IntKind.bits]using hb)
 rw[e,wrap_u64 (by omega) (by omega)]
theorem u64_or {a b:Nat} (ha:a<18446744073709551616) (hb:b<18446744073709551616):AL .or (.int .u64 a) (.int .u64 b)=some (.int .u64 ((a|||b:Nat):Int)):=by
 rw[APZ,Bo,Bo]
 have:(a|||b)<18446744073709551616:=Nat.or_lt_two_pow (n:=64) ha hb
 have e:(BitVec.ofNat (IntKind.u64).bits a|||BitVec.ofNat (IntKind.u64).bits b).toNat=a|||b:=AHT (by simpa [IntKind.bits]using ha) (by simpa [IntKind.bits]using hb)
 rw[e,wrap_u64 (by omega) (by omega)]
theorem u64_xor {a b:Nat} (ha:a<18446744073709551616) (hb:b<18446744073709551616):AL .xor (.int .u64 a) (.int .u64 b)=some (.int .u64 ((a ^^^ b:Nat):Int)):=by
 rw[ACt,Bo,Bo]
 have:(a ^^^ b)<18446744073709551616:=Nat.xor_lt_two_pow (n:=64) ha hb
 have e:(BitVec.ofNat (IntKind.u64).bits a ^^^ BitVec.ofNat (IntKind.u64).bits b).toNat=a ^^^ b:=AHU (by simpa [IntKind.bits]using ha) (by simpa [IntKind.bits]using hb)
 rw[e,wrap_u64 (by omega) (by omega)]
theorem u32_and {a b:Nat} (ha:a<4294967296) (hb:b<4294967296):AL .and (.int .u32 a) (.int .u32 b)=some (.int .u32 ((a&&& b:Nat):Int)):=by
 rw[AHS,Bo,Bo]
 have:(a&&& b)<4294967296:=Nat.lt_of_le_of_lt Nat.and_le_left ha
 have e:(BitVec.ofNat (IntKind.u32).bits a&&& BitVec.ofNat (IntKind.u32).bits b).toNat=a&&& b:=AAV (by simpa [IntKind.bits]using ha) (by simpa [IntKind.bits]using hb)
 rw[e,wrap_u32 (by omega) (by omega)]
theorem u32_or {a b:Nat} (ha:a<4294967296) (hb:b<4294967296):AL .or (.int .u32 a) (.int .u32 b)=some (.int .u32 ((a|||b:Nat):Int)):=by
 rw[APZ,Bo,Bo]
 have:(a|||b)<4294967296:=Nat.or_lt_two_pow (n:=32) ha hb
 have e:(BitVec.ofNat (IntKind.u32).bits a|||BitVec.ofNat (IntKind.u32).bits b).toNat=a|||b:=AHT (by simpa [IntKind.bits]using ha) (by simpa [IntKind.bits]using hb)
 rw[e,wrap_u32 (by omega) (by omega)]
theorem u32_xor {a b:Nat} (ha:a<4294967296) (hb:b<4294967296):AL .xor (.int .u32 a) (.int .u32 b)=some (.int .u32 ((a ^^^ b:Nat):Int)):=by
 rw[ACt,Bo,Bo]
 have:(a ^^^ b)<4294967296:=Nat.xor_lt_two_pow (n:=32) ha hb
 have e:(BitVec.ofNat (IntKind.u32).bits a ^^^ BitVec.ofNat (IntKind.u32).bits b).toNat=a ^^^ b:=AHU (by simpa [IntKind.bits]using ha) (by simpa [IntKind.bits]using hb)
 rw[e,wrap_u32 (by omega) (by omega)]
theorem u8_and {a b:Nat} (ha:a<256) (hb:b<256):AL .and (.int .u8 a) (.int .u8 b)=some (.int .u8 ((a&&& b:Nat):Int)):=by
 rw[AHS,Bo,Bo]
 have:(a&&& b)<256:=Nat.lt_of_le_of_lt Nat.and_le_left ha
 have e:(BitVec.ofNat (IntKind.u8).bits a&&& BitVec.ofNat (IntKind.u8).bits b).toNat=a&&& b:=AAV (by simpa [IntKind.bits]using ha) (by simpa [IntKind.bits]using hb)
 rw[e,wrap_u8 (by omega) (by omega)]
theorem s_eql (a b:List UInt8):AL .eql (.str a) (.str b)=some (.bool (decide (a=b))):=by
 simp only[AL];congr 2;by_cases h:a=b<;>simp[h]
theorem s_neq (a b:List UInt8):AL .neq (.str a) (.str b)=some (.bool (decide (a≠b))):=by
 simp only[AL];congr 2;by_cases h:a=b<;>simp[h]
theorem ASG (a b:List UInt8) (h:a.length+b.length≤4611686018427387904):AL .add (.str a) (.str b)=some (.str (a++b)):=by
 have e:(2:Nat)^62=4611686018427387904:=by decide
 simp only[AL,e,if_pos h]
section
variable {P:Program}
theorem ACu {t:TypeId} (h:P.underlying t=some .string) (s:List UInt8):lenV P t (.str s)=some (.int .i64 s.length):=by simp[lenV,h]
theorem AK1 {t:TypeId} (h:P.underlying t=some .string) {s:List UInt8} {k:IntKind} {i:Nat} {b:UInt8} (hb:s[i]?=some b):Il P t (.str s) (.int k (i:Int))=some (.int .u8 b.toNat):=by
 have hi:i<s.length:=by
  rcases Nat.lt_or_ge i s.length with h'|h'
  ·exact h'
  ·rw[List.getElem?_eq_none h']at hb;cases hb
 have e:inside (i:Int) s.length=true:=by simp[inside,hi]
 simp only[Il,h,e,if_true,Int.toNat_natCast,hb,Option.map_some]
theorem Bv {h:List V} {src dst:TypeId} {k k':IntKind} (hd:P.underlying dst=some (.int k)) (n:Int):conv P h src dst (.int k' n)=some (.int k (k.wrap n)):=by simp[conv,hd]
end
end AM
end
end Go.Proofs.YtphoocnlpnnkdaaGreatDoor
