/-
  Part of the proof of a statement about the given program: an abstract machine over its code, the simulation, its functions' equations, what they compute.
-/
import Derived.IntWalk
import Derived.Test.YtkelgdjhpgefnaaGreatDoorMg3
set_option linter.unusedVariables false
set_option linter.unusedSimpArgs false
set_option linter.unusedSectionVars false
noncomputable section
namespace Go.Proofs.YtkelgdjhpgefnaaGreatDoor
section
namespace AM
open Go
theorem wrap_i64 {n:Int} (h1: -9223372036854775808≤n) (h2:n<9223372036854775808):IntKind.wrap .i64 n=n:=IntWalk.i64_in n ⟨h1,by omega⟩
theorem wrap_u64 {n:Int} (h1:0≤n) (h2:n<18446744073709551616):IntKind.wrap .u64 n=n:=by
 simp only[IntKind.wrap,IntKind.bits,IntKind.signed];simp;omega
theorem wrap_u32 {n:Int} (h1:0≤n) (h2:n<4294967296):IntKind.wrap .u32 n=n:=by
 simp only[IntKind.wrap,IntKind.bits,IntKind.signed];simp;omega
theorem wrap_u8 {n:Int} (h1:0≤n) (h2:n<256):IntKind.wrap .u8 n=n:=by
 simp only[IntKind.wrap,IntKind.bits,IntKind.signed];simp;omega
theorem G8 (n:Nat):IntKind.wrap .u32 (n:Int)=((n%4294967296:Nat):Int):=by
 simp only[IntKind.wrap,IntKind.bits,IntKind.signed];simp
theorem Io (n:Nat):IntKind.wrap .u8 (n:Int)=((n%256:Nat):Int):=by
 simp only[IntKind.wrap,IntKind.bits,IntKind.signed];simp
section
variable {R:Type}
theorem VB (p:Prop) [Decidable p] (a b:Option R):V.ite (.bool (decide p)) a b=if p then a else b:=by by_cases h:p<;>simp[h,V.ite]
end
theorem Ey (k:IntKind) (a b:Int):AO .add (.int k a) (.int k b)=some (.int k (k.wrap (a+b))):=by simp[AO]
theorem Je (k:IntKind) (a b:Int):AO .sub (.int k a) (.int k b)=some (.int k (k.wrap (a-b))):=by simp[AO]
theorem VD (k:IntKind) (a b:Int):AO .mul (.int k a) (.int k b)=some (.int k (k.wrap (a*b))):=by simp[AO]
theorem b_lss (k:IntKind) (a b:Int):AO .lss (.int k a) (.int k b)=some (.bool (decide (a<b))):=by simp[AO,OB]
theorem b_leq (k:IntKind) (a b:Int):AO .leq (.int k a) (.int k b)=some (.bool (decide (a≤b))):=by simp[AO,OB]
theorem b_gtr (k:IntKind) (a b:Int):AO .gtr (.int k a) (.int k b)=some (.bool (decide (b<a))):=by simp[AO,OB]
theorem b_geq (k:IntKind) (a b:Int):AO .geq (.int k a) (.int k b)=some (.bool (decide (b≤a))):=by simp[AO,OB]
theorem b_eql (k:IntKind) (a b:Int):AO .eql (.int k a) (.int k b)=some (.bool (decide (a=b))):=by
 simp only[AO,OB];by_cases h:a=b<;>simp[h]
theorem b_neq (k:IntKind) (a b:Int):AO .neq (.int k a) (.int k b)=some (.bool (decide (a≠b))):=by
 simp only[AO,OB];by_cases h:a=b<;>simp[h,bne]
theorem VE (k:IntKind) (a b:Int) (h:b≠0):AO .quo (.int k a) (.int k b)=some (.int k (k.wrap (a.tdiv b))):=by simp[AO,h]
theorem RP (k:IntKind) (a b:Int) (h:b≠0):AO .rem (.int k a) (.int k b)=some (.int k (a.tmod b)):=by simp[AO,h]
theorem ABA (k k':IntKind) (a b:Int) (h:0≤b):AO .shl (.int k a) (.int k' b)=some (.int k (k.wrap (a*2^(min b.toNat k.bits)))):=by
 simp only[AO];rw[if_neg (by omega)]
theorem ZM (k k':IntKind) (a b:Int) (h:0≤b):AO .shr (.int k a) (.int k' b)=some (.int k (a.fdiv (2^(min b.toNat k.bits)))):=by
 simp only[AO];rw[if_neg (by omega)]
theorem ZN (k:IntKind) (a b:Int):AO .and (.int k a) (.int k b)=some (.int k (k.wrap ((BitVec.ofInt k.bits a&&& BitVec.ofInt k.bits b).toNat))):=by simp[AO]
theorem AC5 (k:IntKind) (a b:Int):AO .or (.int k a) (.int k b)=some (.int k (k.wrap ((BitVec.ofInt k.bits a|||BitVec.ofInt k.bits b).toNat))):=by simp[AO]
theorem ABB (k:IntKind) (a b:Int):AO .xor (.int k a) (.int k b)=some (.int k (k.wrap ((BitVec.ofInt k.bits a ^^^ BitVec.ofInt k.bits b).toNat))):=by simp[AO]
def IntKind.lim:IntKind→Nat
 | .u8=>256
 | .u16=>65536
 | .u32=>4294967296
 |_=>18446744073709551616
theorem VF {w a b:Nat} (ha:a<2^w) (hb:b<2^w):(BitVec.ofNat w a&&& BitVec.ofNat w b).toNat=a&&& b:=by
 rw[BitVec.toNat_and,BitVec.toNat_ofNat,BitVec.toNat_ofNat,Nat.mod_eq_of_lt ha,Nat.mod_eq_of_lt hb]
theorem ABC {w a b:Nat} (ha:a<2^w) (hb:b<2^w):(BitVec.ofNat w a|||BitVec.ofNat w b).toNat=a|||b:=by
 rw[BitVec.toNat_or,BitVec.toNat_ofNat,BitVec.toNat_ofNat,Nat.mod_eq_of_lt ha,Nat.mod_eq_of_lt hb]
theorem Zy {w a b:Nat} (ha:a<2^w) (hb:b<2^w):(BitVec.ofNat w a ^^^ BitVec.ofNat w b).toNat=a ^^^ b:=by
 rw[BitVec.toNat_xor,BitVec.toNat_ofNat,BitVec.toNat_ofNat,Nat.mod_eq_of_lt ha,Nat.mod_eq_of_lt hb]
theorem CY (w n:Nat):BitVec.ofInt w (n:Int)=BitVec.ofNat w n:=by simp
theorem u64_and {a b:Nat} (ha:a<18446744073709551616) (hb:b<18446744073709551616):AO .and (.int .u64 a) (.int .u64 b)=some (.int .u64 ((a&&& b:Nat):Int)):=by
 rw[ZN,CY,CY]
 have:(a&&& b)<18446744073709551616:=Nat.lt_of_le_of_lt Nat.and_le_left ha
 have e:(BitVec.ofNat (IntKind.u64).bits a&&& BitVec.ofNat (IntKind.u64).bits b).toNat=a&&& b:=VF (by simpa [IntKind.bits]using ha) (by simpa [IntKind.bits]using hb)
 rw[e,wrap_u64 (by omega) (by omega)]
theorem u32_and {a b:Nat} (ha:a<4294967296) (hb:b<4294967296):AO .and (.int .u32 a) (.int .u32 b)=some (.int .u32 ((a&&& b:Nat):Int)):=by
 rw[ZN,CY,CY]
 have:(a&&& b)<4294967296:=Nat.lt_of_le_of_lt Nat.and_le_left ha
 have e:(BitVec.ofNat (IntKind.u32).bits a&&& BitVec.ofNat (IntKind.u32).bits b).toNat=a&&& b:=VF (by simpa [IntKind.bits]using ha) (by simpa [IntKind.bits]using hb)
 rw[e,wrap_u32 (by omega) (by omega)]
theorem u32_or {a b:Nat} (ha:a<4294967296) (hb:b<4294967296):AO .or (.int .u32 a) (.int .u32 b)=some (.int .u32 ((a|||b:Nat):Int)):=by
 rw[AC5,CY,CY]
 have:(a|||b)<4294967296:=Nat.or_lt_two_pow (n:=32) ha hb
 have e:(BitVec.ofNat (IntKind.u32).bits a|||BitVec.ofNat (IntKind.u32).bits b).toNat=a|||b:=ABC (by simpa [IntKind.bits]using ha) (by simpa [IntKind.bits]using hb)
 rw[e,wrap_u32 (by omega) (by omega)]
theorem u32_xor {a b:Nat} (ha:a<4294967296) (hb:b<4294967296):AO .xor (.int .u32 a) (.int .u32 b)=some (.int .u32 ((a ^^^ b:Nat):Int)):=by
 rw[ABB,CY,CY]
 have:(a ^^^ b)<4294967296:=Nat.xor_lt_two_pow (n:=32) ha hb
 have e:(BitVec.ofNat (IntKind.u32).bits a ^^^ BitVec.ofNat (IntKind.u32).bits b).toNat=a ^^^ b:=Zy (by simpa [IntKind.bits]using ha) (by simpa [IntKind.bits]using hb)
 rw[e,wrap_u32 (by omega) (by omega)]
theorem s_eql (a b:List UInt8):AO .eql (.str a) (.str b)=some (.bool (decide (a=b))):=by
 simp only[AO];congr 2;by_cases h:a=b<;>simp[h]
theorem s_neq (a b:List UInt8):AO .neq (.str a) (.str b)=some (.bool (decide (a≠b))):=by
 simp only[AO];congr 2;by_cases h:a=b<;>simp[h]
theorem ABD (a b:List UInt8) (h:a.length+b.length≤4611686018427387904):AO .add (.str a) (.str b)=some (.str (a++b)):=by
 have e:(2:Nat)^62=4611686018427387904:=by decide
 simp only[AO,e,if_pos h]
section
variable {P:Program}
theorem Dt {h:List V} {src dst:TypeId} {k k':IntKind} (hd:P.underlying dst=some (.int k)) (n:Int):conv P h src dst (.int k' n)=some (.int k (k.wrap n)):=by simp[conv,hd]
end
end AM
end
section
namespace AM
open Go
def tyB (v:V):Bool:=match v with| .bool _=>true|_=>false
def tyI (k:IntKind) (v:V):Bool:=match v with| .int k' _=>decide (k'=k)|_=>false
def tyS (v:V):Bool:=match v with| .str _=>true|_=>false
def tyP (v:V):Bool:=match v with| .ref _ _ _=>true| .rop _ _=>true| .nilp=>true|_=>false
def tyF (v:V):Bool:=match v with| .clo _ _=>true| .nilf=>true|_=>false
def tyL (e:TypeId) (v:V):Bool:=match v with| .lst e' _ _=>e'==e| .win _ _ _ _ e'=>e'==e|_=>false
def tyG (u:TypeId) (v:V):Bool:=match v with| .agg t' _=>t'==u|_=>false
def fA (s ft:TypeId) (f:Nat) (a:V):Option V:=match a with
 | .ref id p t=>if t=s then some (.ref id (p++[f]) ft)else none
 | .rop t x=>if t=s then(match x with
   | .agg _ xs=>(xs[f]?).map (.rop ft)
   |_=>none)else none
 |_=>none
def cpB (hs:Bool) (v:V):V:=if hs=true then v.weak else v
def Xo (hs:Bool) (vs:List V):List V:=if hs=true then Ag vs else vs
def fV (u:TypeId) (f:Nat) (hs:Bool) (x:V):Option V:=match x with
 | .agg t xs=>if t=u then(xs[f]?).map (cpB hs)else none
 |_=>none
def lnS (x:V):Option V:=match x with| .str s=>some (.int .i64 s.length)|_=>none
def VG (x:V):Option V:=match x with| .lst _ _ xs=>some (.int .i64 xs.length)| .win _ _ _ len _=>some (.int .i64 len)|_=>none
def Tm (e:TypeId) (x i:V):Option V:=match i with
 | .int _ i=>match x with
   | .lst e' _ xs=>if e'=e&&inside i xs.length then(xs[i.toNat]?).map (.rop e)else none
   | .win id p off len e'=>if e'=e&&inside i len then some (.ref id (p++[off+i.toNat]) e)else none
   |_=>none
 |_=>none
def ixA (t u:TypeId) (n:Nat) (e:TypeId) (x i:V):Option V:=match i with
 | .int _ i=>match x with
   | .ref id p t'=>if t'=t&&inside i n then some (.ref id (p++[i.toNat]) e)else none
   | .rop t' y=>if t'=t&&inside i n then(match y with
     | .agg u' xs=>if u'=u then(xs[i.toNat]?).map (.rop e)else none
     |_=>none)else none
   |_=>none
 |_=>none
def ixT (x i:V):Option V:=match i with
 | .int _ i=>match x with
   | .str s=>if inside i s.length then(s[i.toNat]?).map fun b=> .int .u8 b.toNat else none
   | .agg _ _=>none
   |_=>none
 |_=>none
def slT (x:V) (lo hi:Option V):Option V:=match x with
 | .str s=>(BH s.length lo hi none).map fun b=> .str ((s.take b.2).drop b.1)
 | .lst _ _ _=>none
 | .win _ _ _ _ _=>none
 | .ref _ _ _=>none
 | .rop _ _=>none
 |_=>none
def slL (e:TypeId) (x:V) (lo hi mx:Option V):Option V:=match x with
 | .str _=>none
 | .lst e1 f xs=>if e=e1 then(BH xs.length lo hi mx).map fun b=> .lst e1 f.cut ((xs.take b.2).drop b.1)else none
 | .win id p off len e1=>if e=e1 then(BH len lo hi mx).map fun b=> .win id p (off+b.1) (b.2-b.1) e1 else none
 | .ref _ _ _=>none
 | .rop _ _=>none
 |_=>none
def slA (t u:TypeId) (n:Nat) (e:TypeId) (x:V) (lo hi mx:Option V):Option V:=match x with
 | .str _=>none
 | .lst _ _ _=>none
 | .win _ _ _ _ _=>none
 | .ref id p t'=>if t'=t then(BH n lo hi mx).map fun b=> .win id p b.1 (b.2-b.1) e else none
 | .rop t' y=>if t'=t then(match y with
   | .agg u' xs=>if u'=u then(BH n lo hi mx).map fun b=> .lst e .lent ((xs.take b.2).drop b.1)else none
   |_=>none)else none
 |_=>none
def ck {α:Type}:List Bool→α→Option α
 |[],x=>some x
 |b::bs,x=>if b=true then ck bs x else none
def bsL (e:TypeId) (hs:Bool) (o:Option (List V)):Option V:=o.map fun xs=> .lst e (if AL xs then .own else .lent) (Xo hs xs)
def VH (k:IntKind) (x:V):Option V:=match x with| .int _ n=>some (.int k (k.wrap n))|_=>none
def cvS (x:V):Option V:=match x with| .str s=>some (.str s)|_=>none
def cvB (e:TypeId) (x:V):Option V:=match x with| .str s=>if s.length≤DF then some (.lst e .own (bytesOf s))else none|_=>none
def cvT (h:List V) (x:V):Option V:=match x with| .str s=>some (.str s)|x=>((Aj h x).bind ED).map .str
def VI (e:TypeId) (ty:V→Bool) (hs:Bool) (h:List V) (x y:V):Option V:=match x with
 | .lst e' f xs=>if e'=e&&(f== .own||f== .nil)then
  (Aj h y).bind fun ys=>if AL ys&&ys.all ty&&decide (xs.length+ys.length≤DF)then some (.lst e (if f== .nil&&ys.isEmpty then .nil else .own) (xs++Xo hs ys))else none
   else none
 |_=>none
def stT (ty:V→Bool) (t:TypeId) (h:List V) (a v:V):Option (List V):=match a with
 | .ref id p t'=>if t'=t then(if ty v&&v.under (id+1)then wr h id p v else none)else none
 |_=>none
def eqT (ty:V→Bool) (op:BinOp) (x y:V):Option V:=
 if(ty x&&ty y)=true then
  match op with
  | .eql=>(JF x y).map .bool
  | .neq=>(JF x y).map fun r=> .bool (!r)
  |_=>none
 else none
end AM
end
end Go.Proofs.YtkelgdjhpgefnaaGreatDoor
