/-
  Part of the proof of a statement about the given program: an abstract machine over its code, the simulation, its functions' equations, what they compute.
-/
import Derived.Test.YtphoocnlpnnkdaaGreatDoorMg5
import Derived.Test.YtphoocnlpnnkdaaGreatDoorMg6
import Derived.Test.YtphoocnlpnnkdaaGreatDoorMg7
import Derived.Test.YtphoocnlpnnkdaaGreatDoorMg8
import Derived.Test.YtphoocnlpnnkdaaGreatDoorMg9
set_option linter.unusedVariables false
set_option linter.unusedSimpArgs false
set_option linter.unusedSectionVars false
set_option maxRecDepth 100000
noncomputable section
namespace Go.Proofs.YtphoocnlpnnkdaaGreatDoor
section
open Go AM
theorem Gq {ty:V→Bool} {H:List V} {z v:V} (ht:ty v=true) (hu:v.under (H.length+1)=true) (t:TypeId):DJ ty t (H++[z]) (.ref H.length [] t) v=some (H++[v]):=by
 rw[APi (by simp) ht hu,FB]
theorem RN (H:List V) (v:V) (t:TypeId):AX (H++[v]) t (.ref H.length [] t)=some v:=CG (Eg (DW H v))
theorem UY {H:List V} {u:TypeId} {fs:List V} {i:Nat} {v:V} (h:fs[i]?=some v) (t:TypeId):AX (H++[.agg u fs]) t (.ref H.length [i] t)=some v:=CG (Iq (DW H _) h)
end
section
open Go AM
def FD:Nat→Nat→List UInt8→Nat×Nat×Nat
 |_,_,[]=>(0,0,20)
 |k,v,c::cs=>if(k=9∧1<c.toNat)∨(0<k∧c.toNat=0)then(0,0,21)else
  if c.toNat<128 then(v+c.toNat%128*128^k,k+1,0)else FD (k+1) (v+c.toNat%128*128^k) cs
def AHV (r:Nat×Nat×Nat):V:= .tup [.int .u64 (r.1:Int),.int .i64 (r.2.1:Int),.int .i64 (r.2.2:Int)]
theorem APm {v c k:Nat} (hv:v<128^k):v|||(c*128^k)=v+c*128^k:=by
 have e:128^k=2^(7*k):=by rw[Nat.pow_mul]
 rw[e]at hv⊢
 rw[Nat.or_comm,Nat.add_comm,Nat.mul_comm,←Nat.two_pow_add_eq_or_of_lt hv]
theorem APn (k c:Nat) (K:V→Option (V×List V)):AAL (.int .i64 (k:Int)) (.int .u8 (c:Int)) K=K (.bool (decide ((k=9∧1<c)∨(0<k∧c=0)))):=by
 simp only[AAL,b_eql,b_gtr,Option.bind_some,Gm]
 by_cases h1:k=9
 ·subst h1
  by_cases h2:1<c
  ·have:(1:Int)<c:=by omega
   simp[h2,this,ASE]
  ·have:¬(1:Int)<c:=by omega
   simp only[this,if_false,h2]
   by_cases h3:c=0<;>simp[h3]
 ·have:¬(k:Int)=9:=by omega
  simp only[this,if_false,h1]
  by_cases h2:0<k
  ·have:(0:Int)<k:=by omega
   simp only[this,if_true,h2]
   by_cases h3:c=0<;>simp[h3]
  ·have:¬(0:Int)<k:=by omega
   simp[this,h2]
theorem APo {v k c:Nat} (hc:c<256) (h9:k≤9) (hk:k=9→c≤1) (hv:v<128^k) (K:V→Option (V×List V)):
 AAM (.int .u64 (v:Int)) (.int .i64 (k:Int)) (.int .u8 (c:Int)) K=K (.int .u64 ((v+c%128*128^k:Nat):Int)):=by
 have e:128^k=2^(7*k):=by rw[Nat.pow_mul]
 have hp:128^k≤2^63:=by rw[e];exact Nat.pow_le_pow_right (by omega) (by omega)
 have hpv:c%128*128^k<18446744073709551616:=by
  by_cases h:k=9
  ·have:=hk h
   have:c%128≤1:=by omega
   calc c%128*128^k≤1*2^63:=Nat.mul_le_mul this hp
    _<18446744073709551616:=by decide
  ·have hp8:128^k≤2^56:=by rw[e];exact Nat.pow_le_pow_right (by omega) (by omega)
   calc c%128*128^k≤127*2^56:=Nat.mul_le_mul (by omega) hp8
    _<18446744073709551616:=by decide
 have hm:c&&& 127=c%128:=Nat.and_two_pow_sub_one_eq_mod c 7
 have hv64:v<18446744073709551616:=Nat.lt_of_lt_of_le hv (Nat.le_trans hp (by decide))
 have h7:(7:Int)*(k:Int)=((7*k:Nat):Int):=by omega
 have hcm:c%128<128:=Nat.mod_lt _ (by omega)
 have hor:=APm (c:=c%128) hv
 simp only[AAM]
 rw[show(127:Int)=((127:Nat):Int)from rfl,u8_and hc (by omega),hm]
 simp only[Option.bind_some]
 rw[Bv Ef,wrap_u64 (by omega) (by omega),Option.bind_some,RG,h7,wrap_i64 (by omega) (by omega),Option.bind_some,Bv Ph,wrap_u64 (by omega) (by omega),Option.bind_some,AHR _ _ _ _ (by omega)]
 have hmin:min ((7*k:Nat):Int).toNat (IntKind.u64).bits=7*k:=by
  simp only[Int.toNat_natCast,IntKind.bits];omega
 rw[hmin]
 have hcast:(((c%128:Nat):Int)*2^(7*k))=((c%128*128^k:Nat):Int):=by rw[e];push_cast;rfl
 rw[hcast,wrap_u64 (by omega) (by omega),Option.bind_some,u64_or hv64 hpv,Option.bind_some,hor]
theorem YU:∀(cs s:List UInt8) (k v:Nat),s.drop k=cs→k≤s.length→k≤9→s.length<4611686018427387904→v<128^k→
 Vg (.str s) (.int .u64 (v:Int)) (.int .i64 (s.length:Int)) (.int .i64 (k:Int))=some (AHV (FD k v cs),[]):=by
 intro cs
 induction cs with
 |nil=>
  intro s k v hd hk h9 hl hv
  have hk':k=s.length:=by
   have:=congrArg List.length hd
   simp at this;omega
  rw[UH]
  simp only[AAK,b_lss,Option.bind_some,Gm,hk',Int.lt_irrefl,if_false,ABd,FD,AHV]
  rfl
 |cons c cs ih=>
  intro s k v hd hk h9 hl hv
  have hb:s[k]?=some c:=by
   have:=congrArg (·[0]?) hd
   simpa [List.getElem?_drop]using this
  have hlt:k<s.length:=by
   rcases Nat.lt_or_ge k s.length with h|h
   ·exact h
   ·rw[List.getElem?_eq_none h]at hb;cases hb
  have hd':s.drop (k+1)=cs:=by
   rw[←List.drop_drop,hd];rfl
  have hc:c.toNat<256:=c.toNat_lt
  rw[UH]
  simp only[AAK,AGO,AGP,AGQ,AGR,
   b_lss,Option.bind_some,Gm,Int.ofNat_lt,hlt,if_true,AK1 Gj hb,APn,FD]
  by_cases hbad:(k=9∧1<c.toNat)∨(0<k∧c.toNat=0)
  ·simp only[hbad,if_true];rfl
  ·simp only[hbad,if_false]
   rw[APo hc h9 (fun h=>by omega) hv]
   have h128:(((c.toNat:Nat):Int)<128)↔c.toNat<128:=by omega
   simp only[h128]
   by_cases hs:c.toNat<128
   ·simp only[hs,if_true,ABb]
    rw[Bq,show((k:Int)+1)=((k+1:Nat):Int)by omega,wrap_i64 (by omega) (by omega)]
    rfl
   ·simp only[hs,if_false,ABc]
    rw[Bq,show((k:Int)+1)=((k+1:Nat):Int)by omega,wrap_i64 (by omega) (by omega),Option.bind_some]
    have hk9:k<9:=by omega
    refine ih s (k+1) _ hd' (by omega) (by omega) hl ?_
    have:c.toNat%128<128:=Nat.mod_lt _ (by omega)
    calc v+c.toNat%128*128^k<128^k+127*128^k:=Nat.add_lt_add_of_lt_of_le hv (Nat.mul_le_mul_right _ (by omega))
     _=128^(k+1):=by rw[Nat.pow_succ];omega
theorem UZ (s:List UInt8) (hl:s.length<4611686018427387904):Cl 60 [.str s] []=some (AHV (FD 0 0 s),[]):=by
 rw[AOx]
 simp only[AGL,AGM,AGN,ACu Gj,Option.bind_some]
 exact YU s s 0 0 rfl (Nat.zero_le _) (by omega) hl (by decide)
end
section
open Go AM
def Dw (s:List UInt8) (e:Nat):V:= .agg 121 [.str s,.int .i64 (e:Int)]
def LZ (id:Nat):V:= .ref id [] 122
theorem ASq (id:Nat):Af P 122 0 (.ref id [] 122)=some (.ref id [0] 9):=Ip ACs rfl (by rw[ASC];decide) id []
theorem AK7 (id:Nat):Af P 122 1 (.ref id [] 122)=some (.ref id [1] 31):=Ip ACs rfl (by rw[APS];decide) id []
theorem APp {h:List V} {id:Nat} {s:List UInt8} {e:Nat} (hh:h[id]?=some (Dw s e)):AX h 9 (.ref id [0] 9)=some (.str s):=CG (Iq (i:=0) hh rfl)
theorem AK8 {h:List V} {id:Nat} {s:List UInt8} {e:Nat} (hh:h[id]?=some (Dw s e)):AX h 31 (.ref id [1] 31)=some (.int .i64 (e:Int)):=CG (Iq (i:=1) hh rfl)
theorem AVV {h:List V} {id:Nat} {s s':List UInt8} {e:Nat} (hh:h[id]?=some (Dw s e)):FW P h 9 (.ref id [0] 9) (.str s')=some (h.set id (Dw s' e)):=
 J6 (i:=0) hh rfl (by simp[Bc,K_9,Bd,Gj]) rfl
theorem AVW {h:List V} {id:Nat} {s:List UInt8} {e e':Nat} (hh:h[id]?=some (Dw s e)):FW P h 31 (.ref id [1] 31) (.int .i64 (e':Int))=some (h.set id (Dw s e')):=
 J6 (i:=1) hh rfl (by simp[Bc,AU1,Bd,APR]) rfl
def Reads (f:V) (h:List V) (s:List UInt8) (n e:Nat) (h':List V):Prop:=
 ∀(k:V→List V→Option (V×List V)),BH P CX W f [.str s] h k=k (.tup [.int .i64 (n:Int),.int .i64 (e:Int)]) h'
theorem RP (n:Nat) (h:List V) (b:Bool):AQ n h (.bool b)=some (.bool b,h.take n):=rfl
theorem FH (n:Nat) (h:List V) (k:IntKind) (b:Int):AQ n h (.int k b)=some (.int k b,h.take n):=rfl
theorem MJ (n:Nat) (h:List V) (s:List UInt8):AQ n h (.str s)=some (.str s,h.take n):=rfl
theorem YV {f:V} {h:List V} {id:Nat} {s:List UInt8} {e:Nat} (hh:h[id]?=some (Dw s e)) (he:e≠0):Cl 58 [LZ id,f] h=some (.bool false,h):=by
 rw[AGG]
 have:(e:Int)≠0:=by omega
 simp only[AAI,AAJ,AF9,Ag,LZ,Option.bind_some,AK7,AK8 hh,b_neq,Gm,this,ne_eq,not_false_eq_true,if_true,RP,take_len]
theorem ACv {f:V} {h h':List V} {id:Nat} {s:List UInt8} {n e:Nat} (hh:h[id]?=some (Dw s 0)) (hf:Reads f h s n e h') (hh':h'[id]?=some (Dw s 0)) (hn:n≤s.length):
 Cl 58 [LZ id,f] h=some (.bool (decide (e=0)),(h'.set id (if e=0 then Dw (s.drop n) 0 else Dw s e)).take h.length):=by
 have hid:=IB hh'
 have g1:(h'.set id (Dw s e))[id]?=some (Dw s e):=GN _ hh'
 rw[AGG]
 simp only[AAI,AAJ,AGA,AGB,AGC,AGD,AGE,AGF,Ag,LZ,Option.bind_some,
  ASq,AK7,AK8 hh,APp hh,b_neq,Gm,Int.natCast_zero,ne_eq,not_true_eq_false,if_false]
 rw[hf]
 simp only[V.noOwn,BG,Bool.and_self,if_true,ext,List.getElem?_cons_zero,List.getElem?_cons_succ,Option.bind_some,AVW hh',Gm]
 by_cases he:e=0
 ·subst he
  have b1:KZ P 9 (.str s) (some (.int .i64 (n:Int))) none none=some (.str (s.drop n)):=by
   simp[KZ,ABS,Gj,CQ,hn]
  have g1':(h'.set id (Dw s 0))[id]?=some (Dw s 0):=g1
  simp only[b_neq,Gm,Int.natCast_zero,ne_eq,not_true_eq_false,if_false,APp g1',b1,Option.bind_some,AVV g1',List.set_set,RP,if_true,decide_true]
 ·have:(e:Int)≠0:=by omega
  simp only[b_neq,Gm,Option.bind_some,this,ne_eq,not_false_eq_true,if_true,RP,he,if_false,decide_false]
theorem AK9 {h:List V} {id:Nat} {s:List UInt8} (hh:h[id]?=some (Dw s 0)) (hl:s.length<4611686018427387904) (x:Int):
 Reads (.clo 59 [.ref h.length [] 75]) (h++[.int .u64 x]) s (FD 0 0 s).2.1 (FD 0 0 s).2.2 (h++[.int .u64 ((FD 0 0 s).1:Int)]):=by
 intro k
 rw[FC k (by kernel_rfl) (by kernel_rfl)]
 have e1:AP ([V.str s]++[V.ref h.length [] 75])=[V.str s,V.ref h.length [] 75]:=rfl
 have s1:∀y:Int,FW P (h++[V.int .u64 x]) 75 (.ref h.length [] 75) (.int .u64 y)=some (h++[.int .u64 y]):=by
  intro y
  rw[EM (DW h _) (by simp[Bc,AHM,Bd,Ef]) rfl,FB]
 rw[e1,AOw]
 have e2:AB (h++[V.int .u64 x]) [V.str s]=[V.str s]:=rfl
 simp only[AGH,AGI,AGJ,AGK,e2,UZ s hl,AHV,Option.bind_some,ext,List.getElem?_cons_zero,List.getElem?_cons_succ,s1]
 have e3:(h++[V.int .u64 ((FD 0 0 s).1:Int)]).take (h++[V.int .u64 x]).length=h++[V.int .u64 ((FD 0 0 s).1:Int)]:=by
  rw[show(h++[V.int .u64 x]).length=(h++[V.int .u64 ((FD 0 0 s).1:Int)]).length by simp,take_len]
 simp only[List.all_cons,List.all_nil,V.okE,Bool.and_self,if_true,AQ,V.unmut,DU,V.norm,AP,V.clean,AU,V.over,Dy,Bool.and_self,if_true,e3,Option.bind_some]
theorem Pn:∀(cs:List UInt8) (k v:Nat),(FD k v cs).2.1≤k+cs.length
 |[],k,v=>by simp[FD]
 |c::cs,k,v=>by
  simp only[FD]
  split
  ·simp
  ·split
   ·simp
   ·have:=Pn cs (k+1) (v+c.toNat%128*128^k)
    simp;omega
def F5 (s:List UInt8) (e:Nat):Nat×List UInt8×Nat:=
 if e≠0 then(0,s,e)else let r:=FD 0 0 s;(r.1,if r.2.2=0 then s.drop r.2.1 else s,r.2.2)
theorem AAX {h:List V} {id:Nat} {s:List UInt8} {e:Nat} (hh:h[id]?=some (Dw s e)) (hl:s.length<4611686018427387904):
 Cl 30 [LZ id] h=some (.int .u64 ((F5 s e).1:Int),h.set id (Dw (F5 s e).2.1 (F5 s e).2.2)):=by
 have hid:=IB hh
 have s0:FW P (h++[zero P 75]) 75 (.ref h.length [] 75) (.int .u64 0)=some (h++[.int .u64 0]):=by
  rw[EM (DW h _) (by simp[Bc,AHM,Bd,Ef]) rfl,FB]
 have hh1:(h++[V.int .u64 0])[id]?=some (Dw s e):=Ir _ hh
 rw[AOh]
 simp only[AFj,AFk,AFl,AFm,s0,Option.bind_some,APb,if_true]
 have e1:AP [LZ id,V.clo 59 [V.ref h.length [] 75]]=[LZ id,V.clo 59 [V.ref h.length [] 75]]:=rfl
 rw[e1]
 by_cases he:e=0
 ·subst he
  have hl2:=Pn s 0 0
  rw[ACv hh1 (AK9 hh hl 0) (Ir _ hh) (by omega)]
  simp only[Option.bind_some]
  rw[Pm _ _ hid]
  have e4:∀y,(h.set id y++[V.int .u64 ((FD 0 0 s).1:Int)]).take (h++[V.int .u64 0]).length=h.set id y++[V.int .u64 ((FD 0 0 s).1:Int)]:=by
   intro y
   rw[show(h++[V.int .u64 0]).length=(h.set id y++[V.int .u64 ((FD 0 0 s).1:Int)]).length by simp,take_len]
  rw[e4]
  have e5:∀y,AX (h.set id y++[V.int .u64 ((FD 0 0 s).1:Int)]) 75 (.ref h.length [] 75)=some (.int .u64 ((FD 0 0 s).1:Int)):=by
   intro y
   refine CG (Eg ?_)
   simp
  rw[e5,Option.bind_some,FH,take_set]
  simp only[F5,ne_eq,not_true_eq_false,if_false]
  by_cases h2:(FD 0 0 s).2.2=0<;>simp[h2]
 ·rw[YV hh1 he]
  simp only[Option.bind_some]
  have e5:AX (h++[V.int .u64 0]) 75 (.ref h.length [] 75)=some (.int .u64 0):=CG (Eg (DW h _))
  rw[e5,Option.bind_some,FH,Gn]
  simp only[F5,he,ne_eq,not_false_eq_true,if_true]
  rw[Wn hh];rfl
theorem APq {h:List V} {id:Nat} {s:List UInt8} {e:Nat} (hh:h[id]?=some (Dw s e)):Cl 31 [LZ id] h=some (.int .i64 (e:Int),h):=by
 rw[AOi]
 simp only[AFn,AFo,Ag,LZ,Option.bind_some,AK7,AK8 hh,FH,take_len]
def ANU (s:List UInt8) (e:Nat):Nat:=if e=0∧s≠[]then 22 else e
theorem AHW {h:List V} {id:Nat} {s:List UInt8} {e:Nat} (hh:h[id]?=some (Dw s e)):Cl 34 [LZ id] h=some (.int .i64 (ANU s e:Int),h):=by
 rw[AOl]
 simp only[AFt,AFu,AFv,AFw,Ag,LZ,Option.bind_some,ASq,AK7,AK8 hh,APp hh,b_eql,s_neq,Gm,ASF,FH,take_len,ANU]
 by_cases he:e=0
 ·subst he
  by_cases hs:s=[]<;>simp[hs]
 ·have:¬(e:Int)=0:=by omega
  simp[he,this]
theorem YW (h:List V) (s:List UInt8):Cl 29 [.str s] h=some (LZ h.length,h++[Dw s 0]):=by
 rw[AOg]
 have e1:bld P 122 [(0,V.str s)]=some (Dw s 0):=by
  simp[bld,ACs,APX,CY,Bc,K_9,Bd,Gj,cp,APQ,Dw]
 have e2:Bc P 122 (Dw s 0)=true:=by simp[Bc,ACs,Dw]
 have e3:V.under h.length (Dw s 0)=true:=rfl
 simp only[AFh,AFi,e1,Option.bind_some,e2,e3,Bool.and_self,if_true,QL]
 rfl
end
section
open Go AM
theorem Wp:∀(cs:List UInt8) (k v:Nat),k≤9→v<128^k→(FD k v cs).1<18446744073709551616
 |[],k,v,_,_=>by simp[FD]
 |c::cs,k,v,h9,hv=>by
  have hc:c.toNat<256:=c.toNat_lt
  have e:128^k=2^(7*k):=by rw[Nat.pow_mul]
  simp only[FD]
  split
  ·simp
  ·rename_i hb
   have hm:c.toNat%128<128:=Nat.mod_lt _ (by omega)
   split
   ·by_cases h:k=9
    ·have hm1:c.toNat%128≤1:=by omega
     subst h
     have:c.toNat%128*128^9≤1*128^9:=Nat.mul_le_mul_right _ hm1
     simp only;omega
    ·have hp:128^k≤2^56:=by rw[e];exact Nat.pow_le_pow_right (by omega) (by omega)
     have:c.toNat%128*128^k≤127*2^56:=Nat.mul_le_mul (by omega) hp
     simp only;omega
   ·rename_i h128
    refine Wp cs (k+1) _ (by omega) ?_
    have:c.toNat%128*128^k≤127*128^k:=Nat.mul_le_mul_right _ (by omega)
    rw[Nat.pow_succ];omega
def IU (m:Nat) (s:List UInt8):Nat×Nat×List UInt8:=
 let r:=FD 0 0 s
 if r.2.2≠0 then(0,r.2.2,[])else if m<r.1 then(0,22,[])else if s.length-r.2.1<r.1 then(0,20,[])else(r.2.1+r.1,0,(s.drop r.2.1).take r.1)
theorem AHX (m:Nat) (s:List UInt8):(IU m s).1≤s.length:=by
 have:=Pn s 0 0
 simp only[IU]
 split
 ·simp
 ·split
  ·simp
  ·split
   ·simp
   ·simp only;omega
theorem J8 (h h':List V) (a b:Int) (hl:h'.length=h.length):AQ h.length h' (.tup [.int .i64 a,.int .i64 b])=some (.tup [.int .i64 a,.int .i64 b],h'):=by
 simp[AQ,V.unmut,DU,V.norm,AP,V.clean,AU,V.over,Dy,←hl]
theorem AHY {h:List V} {s:List UInt8} (hl:s.length<4611686018427387904) (m:Nat) (hm:m<4611686018427387904):
 Reads (.clo 63 [.ref h.length [] 3,.ref (h.length+1) [] 9]) (h++[.int .i64 (m:Int),.str []]) s (IU m s).1 (IU m s).2.1 (h++[.int .i64 (m:Int),.str (IU m s).2.2]):=by
 intro k
 rw[FC k (by kernel_rfl) (by kernel_rfl)]
 have e1:AP ([V.str s]++[V.ref h.length [] 3,V.ref (h.length+1) [] 9])=[V.str s,V.ref h.length [] 3,V.ref (h.length+1) [] 9]:=rfl
 have g0:∀x,(h++[V.int .i64 (m:Int),x])[h.length]?=some (V.int .i64 (m:Int)):=by intro x;simp
 have g1:∀x,(h++[V.int .i64 (m:Int),x])[h.length+1]?=some x:=by
  intro x;rw[List.getElem?_append_right (by omega)];simp
 have l0:∀x,AX (h++[V.int .i64 (m:Int),x]) 3 (.ref h.length [] 3)=some (.int .i64 (m:Int)):=fun x=>CG (Eg (g0 x))
 have s1:∀y:List UInt8,FW P (h++[V.int .i64 (m:Int),V.str []]) 9 (.ref (h.length+1) [] 9) (.str y)=some (h++[V.int .i64 (m:Int),V.str y]):=by
  intro y
  rw[EM (g1 _) (by simp[Bc,K_9,Bd,Gj]) rfl,List.set_append_right _ _ (by omega)]
  simp
 have hn:=Wp s 0 0 (by omega) (by decide)
 have hk:=Pn s 0 0
 rw[e1,AOz]
 have e2:∀h,AB h [V.str s]=[V.str s]:=fun h=>rfl
 generalize hr:FD 0 0 s=r at hn hk
 obtain⟨n,q,e⟩:=r
 simp only at hn hk
 have htl:IU m s=if e≠0 then(0,e,[])else if m<n then(0,22,[])else if s.length-q<n then(0,20,[])else(q+n,0,(s.drop q).take n):=by simp only[IU,hr]
 simp only[AGV,AGW,AGX,AGY,AGZ,AGa,AGb,AGc,e2,UZ s hl,hr,AHV,Option.bind_some,ext,List.getElem?_cons_zero,List.getElem?_cons_succ,
  b_neq,Gm,l0,b_lss,List.all_cons,List.all_nil,V.okE,Bool.and_self,if_true]
 by_cases he:e=0
 ·subst he
  have hm0:¬((m:Int)<0):=by omega
  simp only[Int.natCast_zero,ne_eq,not_true_eq_false,if_false,hm0,Bv Ef,wrap_u64 (show(0:Int)≤(m:Int)by omega) (show(m:Int)<18446744073709551616 by omega),Option.bind_some,b_gtr,Gm,Int.ofNat_lt]
  by_cases h1:m<n
  ·simp only[h1,if_true,htl,ne_eq,not_true_eq_false,if_false]
   rw[J8 _ _ _ _ (by simp)];rfl
  ·have hcast:((s.length:Int)-(q:Int))=((s.length-q:Nat):Int):=by omega
   simp only[h1,if_false,ACu Gj,Option.bind_some,Ku,hcast]
   rw[wrap_i64 (by omega) (by omega)]
   simp only[Bv Ef,Option.bind_some]
   rw[wrap_u64 (by omega) (by omega)]
   simp only[b_gtr,Option.bind_some,Gm,Int.ofNat_lt]
   by_cases h2:s.length-q<n
   ·simp only[h2,if_true,htl,h1,ne_eq,not_true_eq_false,if_false]
    rw[J8 _ _ _ _ (by simp)];rfl
   ·have hsum:((q:Int)+(n:Int))=((q+n:Nat):Int):=by omega
    have hsl:KZ P 9 (.str s) (some (.int .i64 (q:Int))) (some (.int .i64 ((q+n:Nat):Int))) none=some (.str ((s.drop q).take n)):=by
     have b1:((q+n:Nat):Int)≤(s.length:Int):=by omega
     have b2:(q:Int)≤((q+n:Nat):Int):=by omega
     simp only[KZ,ABS,Gj,Option.isNone_none,Bool.and_self,if_true,CQ,Option.bind_some]
     rw[if_pos ⟨by omega,b1⟩]
     simp only[Option.bind_some]
     rw[if_pos ⟨by omega,b2⟩]
     simp only[Option.map_some,Int.toNat_natCast,Option.some.injEq,V.str.injEq]
     rw[List.drop_take,Nat.add_sub_cancel_left]
    have hq2:q+n≤s.length:=by omega
    simp only[h2,if_false,AGd,AGe,Bv JV,Option.bind_some]
    rw[wrap_i64 (show -9223372036854775808≤(n:Int)by omega) (by omega)]
    simp only[Bq,Option.bind_some,hsum]
    rw[wrap_i64 (by omega) (by omega)]
    rw[hsl,Option.bind_some,s1,Option.bind_some]
    simp only[htl,h1,h2,ne_eq,not_true_eq_false,if_false]
    rw[J8 _ _ _ _ (by simp)];rfl
 ·have:¬((e:Int)=0):=by omega
  simp only[this,ne_eq,not_false_eq_true,if_true,htl,he]
  rw[J8 _ _ _ _ (by simp)];rfl
def textIn (m:Nat) (s:List UInt8) (e:Nat):List UInt8×List UInt8×Nat:=
 if e≠0 then([],s,e)else let r:=IU m s;(r.2.2,if r.2.1=0 then s.drop r.1 else s,r.2.1)
theorem ALA {h:List V} {id:Nat} {s:List UInt8} {e:Nat} (m:Nat) (hm:m<4611686018427387904) (hh:h[id]?=some (Dw s e)) (hl:s.length<4611686018427387904):
 Cl 33 [LZ id,.int .i64 (m:Int)] h=some (.str (textIn m s e).1,h.set id (Dw (textIn m s e).2.1 (textIn m s e).2.2)):=by
 have hid:=IB hh
 have t0:Bc P 3 (.int .i64 (m:Int))=true:=by simp[Bc,K_3,Bd,JV]
 have e0:h++[V.int .i64 (m:Int)]++[zero P 9]=h++[V.int .i64 (m:Int),zero P 9]:=by simp
 have g1:∀(g:List V) (x y:V),g.length=h.length→(g++[x,y])[h.length+1]?=some y:=by
  intro g x y hg;rw[List.getElem?_append_right (by omega)];simp[hg]
 have len1:(h++[V.int .i64 (m:Int)]).length=h.length+1:=by simp
 have s0:FW P (h++[V.int .i64 (m:Int),zero P 9]) 9 (.ref (h.length+1) [] 9) (.str [])=some (h++[V.int .i64 (m:Int),V.str []]):=by
  rw[EM (g1 h _ _ rfl) (by simp[Bc,K_9,Bd,Gj]) rfl,List.set_append_right _ _ (by omega)]
  simp
 have hh1:∀x y:V,(h++[x,y])[id]?=some (Dw s e):=fun x y=>Ir _ hh
 rw[AOk]
 simp only[AFp,AFq,AFr,AFs,t0,V.under,Bool.and_self,if_true,len1,e0,s0,Option.bind_some]
 have cap:List.all [V.ref h.length [] 3,V.ref (h.length+1) [] 9] V.capOk=true:=rfl
 simp only[cap,if_true,Option.bind_some]
 have e1:AP [LZ id,V.clo 63 [V.ref h.length [] 3,V.ref (h.length+1) [] 9]]=[LZ id,V.clo 63 [V.ref h.length [] 3,V.ref (h.length+1) [] 9]]:=rfl
 rw[e1]
 have e5:∀(g:List V) (y:List UInt8),g.length=h.length→AX (g++[V.int .i64 (m:Int),V.str y]) 9 (.ref (h.length+1) [] 9)=some (.str y):=fun g y hg=>CG (Eg (g1 g _ _ hg))
 by_cases he:e=0
 ·subst he
  rw[ACv (hh1 _ _) (AHY hl m hm) (hh1 _ _) (AHX m s)]
  simp only[Option.bind_some]
  rw[Pm _ _ hid]
  have e4:∀y:V,(h.set id y++[V.int .i64 (m:Int),V.str (IU m s).2.2]).take (h++[V.int .i64 (m:Int),V.str []]).length=h.set id y++[V.int .i64 (m:Int),V.str (IU m s).2.2]:=by
   intro y
   rw[show(h++[V.int .i64 (m:Int),V.str []]).length=(h.set id y++[V.int .i64 (m:Int),V.str (IU m s).2.2]).length by simp,take_len]
  rw[e4,e5 _ _ (by simp),Option.bind_some,MJ,take_set]
  simp only[textIn,ne_eq,not_true_eq_false,if_false]
  by_cases h2:(IU m s).2.1=0<;>simp[h2]
 ·rw[YV (hh1 _ _) he]
  simp only[Option.bind_some]
  rw[e5 h _ rfl,Option.bind_some,MJ,Gn]
  simp only[textIn,he,ne_eq,not_false_eq_true,if_true]
  rw[Wn hh]
def zz (n:Nat):Int:=if n%2=0 then((n/2:Nat):Int)else -1-((n/2:Nat):Int)
theorem AHZ {a:Nat} (ha:a<9223372036854775808):AL .xor (.int .i64 (a:Int)) (.int .i64 0)=some (.int .i64 (a:Int)):=by
 rw[ACt]
 have e:(BitVec.ofInt (IntKind.i64).bits (a:Int) ^^^ BitVec.ofInt (IntKind.i64).bits 0).toNat=a:=by
  have:BitVec.ofInt (IntKind.i64).bits 0=0#64:=rfl
  rw[this,Bo]
  show(BitVec.ofNat 64 a ^^^ 0#64).toNat=a
  rw[BitVec.xor_zero,BitVec.toNat_ofNat,Nat.mod_eq_of_lt (by omega)]
 rw[e,wrap_i64 (by omega) (by omega)]
theorem AHa {a:Nat} (ha:a<9223372036854775808):AL .xor (.int .i64 (a:Int)) (.int .i64 (-1))=some (.int .i64 (-1-(a:Int))):=by
 rw[ACt]
 have e:(BitVec.ofInt (IntKind.i64).bits (a:Int) ^^^ BitVec.ofInt (IntKind.i64).bits (-1)).toNat=18446744073709551615-a:=by
  have:BitVec.ofInt (IntKind.i64).bits (-1)=BitVec.allOnes 64:=rfl
  rw[this,Bo]
  show(BitVec.ofNat 64 a ^^^ BitVec.allOnes 64).toNat=_
  rw[BitVec.xor_allOnes,BitVec.toNat_not,BitVec.toNat_ofNat,Nat.mod_eq_of_lt (by omega)]
 have e2:((18446744073709551615-a:Nat):Int)=18446744073709551615-(a:Int):=by omega
 have e3:IntKind.wrap .i64 (18446744073709551615-(a:Int))= -1-(a:Int):=by rw[Go.IntKind.wrap_i64];omega
 rw[e,e2,e3]
theorem APr {h:List V} {id:Nat} {s:List UInt8} {e:Nat} (hh:h[id]?=some (Dw s e)) (hl:s.length<4611686018427387904):
 Cl 61 [LZ id] h=some (.int .i64 (zz (F5 s e).1),h.set id (Dw (F5 s e).2.1 (F5 s e).2.2)):=by
 have hn:(F5 s e).1<18446744073709551616:=by
  simp only[F5]
  split
  ·simp
  ·exact Wp s 0 0 (by omega) (by decide)
 rw[AOy]
 have e1:AP [LZ id]=[LZ id]:=rfl
 simp only[AGS,AGT,AGU,e1,AAX hh hl,Option.bind_some]
 generalize (F5 s e).1=n at hn
 rw[UQ _ _ _ _ (by omega)]
 have hs:Int.fdiv (n:Int) (2^min (1:Int).toNat (IntKind.u64).bits)=((n/2:Nat):Int):=by
  have:min (1:Int).toNat (IntKind.u64).bits=1:=by decide
  rw[this]
  simp[Int.fdiv_eq_ediv]
 rw[hs,Option.bind_some,Bv ACp,wrap_i64 (by omega) (by omega),Option.bind_some,show(1:Int)=((1:Nat):Int)from rfl,u64_and hn (by omega),Option.bind_some,Nat.and_one_is_mod,Bv ACp,wrap_i64 (by omega) (by omega),Option.bind_some]
 by_cases h2:n%2=0
 ·have:un .neg (.int .i64 ((n%2:Nat):Int))=some (.int .i64 0):=by rw[h2];rfl
  rw[this,Option.bind_some,AHZ (by omega),Option.bind_some,FH]
  simp only[zz,h2,if_true,List.length_set]
  rw[show h.length=(h.set id (Dw (F5 s e).2.1 (F5 s e).2.2)).length by simp,take_len]
 ·have:un .neg (.int .i64 ((n%2:Nat):Int))=some (.int .i64 (-1)):=by rw[show n%2=1 by omega];rfl
  rw[this,Option.bind_some,AHa (by omega),Option.bind_some,FH]
  simp only[zz,h2,if_false]
  rw[show h.length=(h.set id (Dw (F5 s e).2.1 (F5 s e).2.2)).length by simp,take_len]
end
section
open Go AM
structure Msg where
 fr:Int
 to:Int
 val:Int
 deriving DecidableEq
def Ac (m:Msg):V:= .agg 102 [.int .i64 m.fr,.int .i64 m.to,.int .i64 m.val]
end
section
open Go AM
@[go_sem] theorem AUY (m:Msg):(Ac m).pl=true:=(rfl)
@[go_sem] theorem AHb (l:List Msg):Iu (l.map Ac)=true:=DC (fun _=>rfl) l
@[go_sem] theorem YX (m:Msg):tyG 102 (Ac m)=true:=RJ ..
@[go_sem] theorem ASr (l:List Msg):(l.map Ac).all (tyG 102)=true:=all_map (fun _=>RJ ..) l
end
section
open Go AM
def vw (n:Nat):V:= .int .u32 (n:Int)
def MK (l:List Nat):List V:=l.map vw
def A8 (l:List Nat):V:= .agg 197 (MK l)
def TQ (l:List Nat):V:= .agg 211 (MK l)
def B32 (l:List Nat):Prop:=∀x∈l,x<4294967296
def Eh (x n:Nat):Nat:=x*2^(32-n)%4294967296|||x/2^n
theorem Au {x n:Nat} (hx:x<4294967296):Eh x n<4294967296:=
 Nat.or_lt_two_pow (n:=32) (Nat.mod_lt _ (by decide)) (Nat.lt_of_le_of_lt (Nat.div_le_self _ _) hx)
theorem Ht (n:Int):IntKind.wrap .u64 n=n%18446744073709551616:=by simp[IntKind.wrap,IntKind.bits,IntKind.signed]
theorem RQ (a n:Nat):Int.fdiv (a:Int) (2^n)=((a/2^n:Nat):Int):=by
 have e:(2:Int)^n=((2^n:Nat):Int):=by push_cast;rfl
 rw[e,Int.fdiv_eq_ediv_of_nonneg _ (Int.natCast_nonneg _)];rfl
theorem Po {a:Nat} (n:Nat) (hn:n≤32):AL .shr (.int .u32 (a:Int)) (.int .u64 (n:Int))=some (.int .u32 ((a/2^n:Nat):Int)):=by
 rw[UQ _ _ _ _ (by omega)]
 have:min ((n:Int)).toNat (IntKind.u32).bits=n:=by simp[IntKind.bits];omega
 rw[this,RQ]
theorem Pq {a:Nat} (n:Nat) (hn:n≤32):AL .shl (.int .u32 (a:Int)) (.int .u64 (n:Int))=some (.int .u32 ((a*2^n%4294967296:Nat):Int)):=by
 rw[AHR _ _ _ _ (by omega)]
 have:min ((n:Int)).toNat (IntKind.u32).bits=n:=by simp[IntKind.bits];omega
 rw[this]
 have e:((a:Int)*2^n)=((a*2^n:Nat):Int):=by push_cast;rfl
 rw[e,Io]
theorem ALB (a b:Nat):AL .add (.int .u32 (a:Int)) (.int .u32 (b:Int))=some (.int .u32 (((a+b)%4294967296:Nat):Int)):=by
 rw[Bq,show(a:Int)+(b:Int)=((a+b:Nat):Int)by omega,Io]
theorem ALC {x:Nat} (hx:x<4294967296) (n:Nat) (h1:1≤n) (h2:n≤31):Cl 149 [.int .u32 (x:Int),.int .i64 (n:Int)] []=some (.int .u32 (Eh x n:Int),[]):=by
 have key:Cl 163 [.int .u32 (x:Int),.int .i64 (-(n:Int))] []=some (.int .u32 (Eh x n:Int),[]):=by
  rw[AKz]
  have w:IntKind.wrap .u64 (-(n:Int))=((18446744073709551616-n:Nat):Int):=by rw[Ht];omega
  have m:(18446744073709551616-n)&&& 31=32-n:=by
   rw[show(31:Nat)=2^5-1 from rfl,Nat.and_two_pow_sub_one_eq_mod];omega
  simp only[ACm,ACn,ACo,Bv Ph,w,Option.bind_some]
  rw[show(31:Int)=((31:Nat):Int)from rfl,u64_and (by omega) (by omega),m,Option.bind_some,Pq _ (by omega),Option.bind_some,Ku,show(32:Int)-((32-n:Nat):Int)=(n:Int)by omega,wrap_u64 (by omega) (by omega),Option.bind_some,Po _ (by omega),Option.bind_some,
   u32_or (Nat.mod_lt _ (by decide)) (Nat.lt_of_le_of_lt (Nat.div_le_self _ _) hx),Option.bind_some,FH]
  rfl
 rw[AKy]
 have ng:un .neg (.int .i64 (n:Int))=some (.int .i64 (-(n:Int))):=by
  simp only[un];rw[show(0:Int)-(n:Int)= -(n:Int)by omega,wrap_i64 (by omega) (by omega)]
 have e:AB [] [V.int .u32 (x:Int),V.int .i64 (-(n:Int))]=[V.int .u32 (x:Int),V.int .i64 (-(n:Int))]:=rfl
 simp only[ACk,ACl,ng,Option.bind_some,e,key]
 rfl
theorem ASs {h:List V} {x:Nat} (hx:x<4294967296) (n:Nat) (h1:1≤n) (h2:n≤31):Cl 149 (AB h [.int .u32 (x:Int),.int .i64 (n:Int)]) []=some (.int .u32 (Eh x n:Int),[]):=ALC hx n h1 h2
theorem J9 {l:List Nat} {i:Nat} (hi:i<l.length):(MK l)[i]?=some (vw (l.getD i 0)):=by
 simp[MK,List.getElem?_map,List.getElem?_eq_getElem hi]
theorem B32.get {l:List Nat} (h:B32 l) (i:Nat):l.getD i 0<4294967296:=by
 rcases Nat.lt_or_ge i l.length with hi|hi
 ·rw[List.getD_eq_getElem?_getD,List.getElem?_eq_getElem hi];exact h _ (List.getElem_mem hi)
 ·rw[List.getD_eq_getElem?_getD,List.getElem?_eq_none hi];decide
theorem ACw (l:List Nat) (i x:Nat):(MK l).set i (vw x)=MK (l.set i x):=by simp[MK,List.map_set]
theorem APs {id i:Nat} (hi:i<64):AY P 211 (.ref id [] 211) (.int .i64 (i:Int))=some (.ref id [i] 166):=by
 have:inside (i:Int) 64=true:=by simp[inside];omega
 simp[AY,ANQ,this]
theorem ix8 {id i:Nat} (hi:i<8):AY P 197 (.ref id [] 197) (.int .i64 (i:Int))=some (.ref id [i] 166):=by
 have:inside (i:Int) 8=true:=by simp[inside];omega
 simp[AY,Oe,this]
theorem ixK {i:Nat} (hi:i<64) {l:List Nat} (hl:l.length=64):AY P 211 (.rop 211 (TQ l)) (.int .i64 (i:Int))=some (.rop 166 (vw (l.getD i 0))):=by
 have:inside (i:Int) 64=true:=by simp[inside];omega
 simp[AY,ANQ,this,TQ,J9 (show i<l.length by omega)]
theorem ASt (x:Nat):Bc P 166 (vw x)=true:=by simp[Bc,ANP,Bd,Wl,vw]
theorem AVX {h:List V} {id i:Nat} {l:List Nat} (hh:h[id]?=some (TQ l)) (hi:i<l.length):AX h 166 (.ref id [i] 166)=some (vw (l.getD i 0)):=CG (Iq hh (J9 hi))
theorem ld8 {h:List V} {id i:Nat} {l:List Nat} (hh:h[id]?=some (A8 l)) (hi:i<l.length):AX h 166 (.ref id [i] 166)=some (vw (l.getD i 0)):=CG (Iq hh (J9 hi))
theorem st64 {h:List V} {id i x:Nat} {l:List Nat} (hh:h[id]?=some (TQ l)) (hi:i<l.length):FW P h 166 (.ref id [i] 166) (vw x)=some (h.set id (TQ (l.set i x))):=by
 rw[J6 hh (J9 hi) (ASt x) rfl,ACw];rfl
theorem st8 {h:List V} {id i x:Nat} {l:List Nat} (hh:h[id]?=some (A8 l)) (hi:i<l.length):FW P h 166 (.ref id [i] 166) (vw x)=some (h.set id (A8 (l.set i x))):=by
 rw[J6 hh (J9 hi) (ASt x) rfl,ACw];rfl
def wordAt (p:List UInt8) (t:Nat):Nat:=((p.getD (4*t) 0).toNat*2^24%4294967296|||(p.getD (4*t+1) 0).toNat*2^16%4294967296)|||(p.getD (4*t+2) 0).toNat*2^8%4294967296|||(p.getD (4*t+3) 0).toNat
def Kw (p:List UInt8):Nat→Nat→List Nat→List Nat
 |0,_,w=>w
 |n+1,t,w=>Kw p n (t+1) (w.set t (wordAt p t))
theorem Nr (p:List UInt8) (t:Nat):wordAt p t<4294967296:=by
 have h3:(p.getD (4*t+3) 0).toNat<2^32:=Nat.lt_of_lt_of_le (UInt8.toNat_lt _) (by decide)
 refine Nat.or_lt_two_pow (n:=32) (Nat.or_lt_two_pow (n:=32) (Nat.or_lt_two_pow (n:=32) (Nat.mod_lt _ (by decide)) (Nat.mod_lt _ (by decide))) (Nat.mod_lt _ (by decide))) h3
theorem B32.set {l:List Nat} (h:B32 l) (i:Nat) {x:Nat} (hx:x<4294967296):B32 (l.set i x):=by
 intro y hy
 rcases List.mem_or_eq_of_mem_set hy with hy|rfl
 ·exact h y hy
 ·exact hx
theorem YZ (p:List UInt8):∀(n t:Nat) (w:List Nat),B32 w→w.length=64→B32 (Kw p n t w)∧(Kw p n t w).length=64
 |0,_,w,h,hl=>⟨h,hl⟩
 |n+1,t,w,h,hl=>YZ p n (t+1) _ (h.set t (Nr p t)) (by simp[hl])
theorem Ns {p:List UInt8} {i:Nat} (hi:i<p.length):(bytesOf p)[i]?=some (.int .u8 ((p.getD i 0).toNat:Int)):=by
 simp[bytesOf,List.getElem?_map,List.getElem?_eq_getElem hi]
theorem ixB {xs:List V} {f:Fl} {i:Nat} {v:V} (hv:xs[i]?=some v):AY P 117 (.lst 5 f xs) (.int .i64 (i:Int))=some (.rop 5 v):=by
 have hi:=IB hv
 have:inside (i:Int) xs.length=true:=by simp[inside,hi]
 simp[AY,Ea,this,hv]
theorem ixW {xs:List V} {f:Fl} {i:Nat} {v:V} (hv:xs[i]?=some v):AY P 117 (V.weak (.lst 5 f xs)) (.int .i64 (i:Int))=some (.rop 5 v):=by
 cases f<;>exact ixB hv
theorem ALD {h:List V} {f:Fl} {p:List UInt8} {t:Nat} {l:List Nat} (hp:4*t+4≤p.length) (ht:t<64) (hh:h[2]?=some (TQ l)) (hl:l.length=64) (K:List V→Option (V×List V)):
 Wh (.ref 2 [] 211) (.int .i64 (t:Int)) (.lst 5 f (((bytesOf p).take (4*t+4)).drop (4*t))) h K=K (h.set 2 (TQ (l.set t (wordAt p t)))):=by
 have g:∀j,j<4→(((bytesOf p).take (4*t+4)).drop (4*t))[j]?=some (.int .u8 ((p.getD (4*t+j) 0).toNat:Int)):=by
  intro j hj
  rw[List.getElem?_drop,List.getElem?_take_of_lt (by omega),Ns (by omega)]
 have i0:=ixW (f:=f) (g 0 (by omega));have i1:=ixW (f:=f) (g 1 (by omega));have i2:=ixW (f:=f) (g 2 (by omega));have i3:=ixW (f:=f) (g 3 (by omega))
 have b:∀j,(p.getD j 0).toNat<256:=fun j=>UInt8.toNat_lt _
 have c:∀x:Nat,x<256→conv P h 5 166 (.int .u8 (x:Int))=some (.int .u32 (x:Int)):=fun x hx=>by rw[Bv Wl,wrap_u32 (by omega) (by omega)]
 have s24:∀x:Nat,AL .shl (.int .u32 (x:Int)) (.int .u64 24)=some (.int .u32 ((x*2^24%4294967296:Nat):Int)):=fun x=>Pq (a:=x) 24 (by omega)
 have s16:∀x:Nat,AL .shl (.int .u32 (x:Int)) (.int .u64 16)=some (.int .u32 ((x*2^16%4294967296:Nat):Int)):=fun x=>Pq (a:=x) 16 (by omega)
 have s8:∀x:Nat,AL .shl (.int .u32 (x:Int)) (.int .u64 8)=some (.int .u32 ((x*2^8%4294967296:Nat):Int)):=fun x=>Pq (a:=x) 8 (by omega)
 have m:∀x:Nat,x%4294967296<4294967296:=fun x=>Nat.mod_lt _ (by decide)
 have o1:=Nat.or_lt_two_pow (n:=32) (m ((p.getD (4*t+0) 0).toNat*2^24)) (m ((p.getD (4*t+1) 0).toNat*2^16))
 have o2:=Nat.or_lt_two_pow (n:=32) o1 (m ((p.getD (4*t+2) 0).toNat*2^8))
 simp only[Wh]
 rw[show(0:Int)=((0:Nat):Int)from rfl,show(1:Int)=((1:Nat):Int)from rfl,show(2:Int)=((2:Nat):Int)from rfl,show(3:Int)=((3:Nat):Int)from rfl,i0,i1,i2,i3]
 simp only[Option.bind_some,EK,c _ (b _),s24,s16,s8]
 rw[u32_or (m _) (m _)]
 simp only[Option.bind_some]
 rw[u32_or o1 (m _)]
 simp only[Option.bind_some]
 rw[u32_or o2 (by have:=b (4*t+3);omega)]
 simp only[Option.bind_some]
 rw[APs ht,Option.bind_some]
 exact(congrArg (fun z=>Option.bind z fun h_1=>K h_1) (st64 (x:=wordAt p t) hh (by omega))).trans rfl
end
section
open Go AM
def sg0 (x:Nat):Nat:=(Eh x 7 ^^^ Eh x 18) ^^^ x/2^3
def sg1 (x:Nat):Nat:=(Eh x 17 ^^^ Eh x 19) ^^^ x/2^10
def ad (a b:Nat):Nat:=(a+b)%4294967296
def Ky:Nat→Nat→List Nat→List Nat
 |0,_,w=>w
 |n+1,t,w=>Ky n (t+1) (w.set t (ad (ad (ad (w.getD (t-16) 0) (w.getD (t-7) 0)) (sg0 (w.getD (t-15) 0))) (sg1 (w.getD (t-2) 0))))
theorem Ua (a b:Nat):ad a b<4294967296:=Nat.mod_lt _ (by decide)
theorem EC {a b:Nat} (ha:a<4294967296) (hb:b<4294967296):a ^^^ b<4294967296:=Nat.xor_lt_two_pow (n:=32) ha hb
theorem AHc {a b:Nat} (ha:a<4294967296) (hb:b<4294967296):a|||b<4294967296:=Nat.or_lt_two_pow (n:=32) ha hb
theorem EW {a b:Nat} (ha:a<4294967296):a&&& b<4294967296:=Nat.lt_of_le_of_lt Nat.and_le_left ha
theorem KA {a:Nat} (n:Nat) (ha:a<4294967296):a/n<4294967296:=Nat.lt_of_le_of_lt (Nat.div_le_self _ _) ha
theorem Gs (a b:Nat):AL .add (.int .u32 (a:Int)) (.int .u32 (b:Int))=some (.int .u32 (ad a b:Int)):=ALB a b
theorem Ya:∀(n t:Nat) (w:List Nat),B32 w→w.length=64→B32 (Ky n t w)∧(Ky n t w).length=64
 |0,_,w,h,hl=>⟨h,hl⟩
 |n+1,t,w,h,hl=>Ya n (t+1) _ (h.set t (Ua _ _)) (by simp[hl])
def rnd (k:List Nat) (w:List Nat) (t:Nat) (v:List Nat):List Nat:=
 let a:=v.getD 0 0;let b:=v.getD 1 0;let c:=v.getD 2 0;let e:=v.getD 4 0;let f:=v.getD 5 0;let g:=v.getD 6 0
 let x:=ad (ad (ad (ad (v.getD 7 0) ((Eh e 6 ^^^ Eh e 11) ^^^ Eh e 25)) (g ^^^ (e&&& (f ^^^ g)))) (k.getD t 0)) (w.getD t 0)
 let y:=ad ((Eh a 2 ^^^ Eh a 13) ^^^ Eh a 22) ((a&&& b)|||(c&&& (a|||b)))
 [ad x y,a,b,c,ad (v.getD 3 0) x,e,f,g]
def RS (k w:List Nat):Nat→Nat→List Nat→List Nat
 |0,_,v=>v
 |n+1,t,v=>RS k w n (t+1) (rnd k w t v)
def Nu (v:List Nat):Nat→Nat→List Nat→List Nat
 |0,_,h=>h
 |n+1,i,h=>Nu v n (i+1) (h.set i (ad (h.getD i 0) (v.getD i 0)))
def CJ:List Nat:=(match QO with|V.agg _ l=>l|_=>[]).map fun v=>match v with|V.int _ n=>n.toNat|_=>0
theorem ALF:QO=TQ CJ:=by kernel_rfl
theorem ANV:CJ.length=64:=by kernel_rfl
theorem ANW:B32 CJ:=by
 have h:CJ.all (fun x=>decide (x<4294967296))=true:=by kernel_rfl
 intro x hx
 have:=List.all_eq_true.1 h x hx
 exact of_decide_eq_true this
def Ub (h:List Nat) (p:List UInt8):List Nat:=
 let w:=Ky 48 16 (Kw p 16 0 (List.replicate 64 0))
 Nu (RS CJ w 64 0 h) 8 0 h
theorem AAY {k w v:List Nat} (hv:B32 v) (t:Nat):B32 (rnd k w t v)∧(rnd k w t v).length=8:=by
 refine⟨?_,rfl⟩
 intro x hx
 simp only[rnd,List.mem_cons,List.not_mem_nil,or_false]at hx
 rcases hx with rfl|rfl|rfl|rfl|rfl|rfl|rfl|rfl<;>first|exact Ua _ _|exact hv.get _
theorem ACx {v:List Nat}:∀(n i:Nat) (h:List Nat),B32 h→h.length=8→B32 (Nu v n i h)∧(Nu v n i h).length=8
 |0,_,h,hb,hl=>⟨hb,hl⟩
 |n+1,i,h,hb,hl=>ACx n (i+1) _ (hb.set i (Ua _ _)) (by simp[hl])
theorem Uc (h:List V):∀l:List Nat,DU h (MK l)=MK l
 |[]=>rfl
 |x::l=>by simp only[MK,List.map_cons,DU];rw[show List.map vw l=MK l from rfl,Uc h l];rfl
theorem Yb:∀l:List Nat,AP (MK l)=MK l
 |[]=>rfl
 |x::l=>by simp only[MK,List.map_cons,AP];rw[show List.map vw l=MK l from rfl,Yb l];rfl
theorem Ud:∀l:List Nat,AU (MK l)=true
 |[]=>rfl
 |x::l=>by simp only[MK,List.map_cons,AU];rw[show List.map vw l=MK l from rfl,Ud l];rfl
theorem Yc (n:Nat):∀l:List Nat,Dy n (MK l)=true
 |[]=>rfl
 |x::l=>by simp only[MK,List.map_cons,Dy];rw[show List.map vw l=MK l from rfl,Yc n l];rfl
theorem GY (n:Nat):∀l:List Nat,Aa n (MK l)=true
 |[]=>rfl
 |x::l=>by simp only[MK,List.map_cons,Aa];rw[show List.map vw l=MK l from rfl,GY n l];rfl
theorem APu (n:Nat) (h:List V) (l:List Nat):AQ n h (A8 l)=some (A8 l,h.take n):=by
 simp only[AQ,A8,V.unmut,Uc,V.norm,Yb,V.clean,Ud,V.over,Yc,Bool.and_self,if_true]
theorem ALG (v:List Nat) (hv:v.length=8) (x w z:V):∀(n i:Nat) (hs:List Nat),i+n=8→hs.length=8→
 Pg (.ref 0 [] 197) (.ref 1 [] 197) (A8 v) (.int .i64 (i:Int)) [A8 hs,A8 (List.replicate 8 0),w,z]=some (A8 (Nu v n i hs),[]):=by
 intro n
 induction n with
 |zero=>
  intro i hs hi hl
  rw[Q7]
  have:¬((i:Int)<8):=by omega
  have l0:AX [A8 hs,A8 (List.replicate 8 0),w,z] 197 (.ref 0 [] 197)=some (A8 hs):=CG (Eg rfl)
  have s1:FW P [A8 hs,A8 (List.replicate 8 0),w,z] 197 (.ref 1 [] 197) (A8 hs)=some [A8 hs,A8 hs,w,z]:=
   EM rfl (by simp[Bc,Oe,A8]) (by simp only[A8,V.under];exact GY _ _)
  have l1:AX [A8 hs,A8 hs,w,z] 197 (.ref 1 [] 197)=some (A8 hs):=CG (Eg rfl)
  simp only[Qz,YQ,b_lss,Option.bind_some,Gm,this,if_false,l0,s1,l1,APu,List.take_zero,Nu]
 |succ n ih=>
  intro i hs hi hl
  rw[Q7]
  have hlt:(i:Int)<8:=by omega
  have ix:Il P 197 (A8 v) (.int .i64 (i:Int))=some (vw (v.getD i 0)):=by
   have:inside (i:Int) 8=true:=by simp[inside];omega
   simp[Il,A8,Oe,this,J9 (show i<v.length by omega),cp,AHQ]
  have l0:AX [A8 hs,A8 (List.replicate 8 0),w,z] 166 (.ref 0 [i] 166)=some (vw (hs.getD i 0)):=ld8 rfl (by omega)
  have s0:FW P [A8 hs,A8 (List.replicate 8 0),w,z] 166 (.ref 0 [i] 166) (vw (ad (hs.getD i 0) (v.getD i 0)))=some [A8 (hs.set i (ad (hs.getD i 0) (v.getD i 0))),A8 (List.replicate 8 0),w,z]:=st8 rfl (by omega)
  have a0:AL .add (vw (hs.getD i 0)) (vw (v.getD i 0))=some (vw (ad (hs.getD i 0) (v.getD i 0))):=Gs _ _
  simp only[Qz,YN,YO,YP,b_lss,Option.bind_some,Gm,hlt,if_true,ix,ix8 (show i<8 by omega),l0,a0,s0,Bq]
  rw[show((i:Int)+1)=((i+1:Nat):Int)by omega,wrap_i64 (by omega) (by omega)]
  exact ih (i+1) _ (by omega) (by simp[hl])
theorem AVY {id:Nat} (j:Nat) (hj:j<8):AY P 197 (.ref id [] 197) (.int .i64 (j:Int))=some (.ref id [j] 166):=ix8 hj
theorem at8 {B:Type} {h:List V} {id:Nat} {v:List Nat} (hh:h[id]?=some (A8 v)) (hv:v.length=8) (j:Nat) (hj:j<8) (K:V→Option B):
 (AY P 197 (.ref id [] 197) (.int .i64 (j:Int))).bind (fun a=>(AX h 166 a).bind K)=K (.int .u32 (v.getD j 0:Int)):=by
 rw[AVY j hj,Option.bind_some,ld8 hh (by omega),Option.bind_some];rfl
theorem Wq {B:Type} {h:List V} {id:Nat} {v:List Nat} (hh:h[id]?=some (TQ v)) (hv:v.length=64) (j:Nat) (hj:j<64) (K:V→Option B):
 (AY P 211 (.ref id [] 211) (.int .i64 (j:Int))).bind (fun a=>(AX h 166 a).bind K)=K (.int .u32 (v.getD j 0:Int)):=by
 rw[APs hj,Option.bind_some,AVX hh (by omega),Option.bind_some];rfl
theorem atK {B:Type} {h:List V} (j:Nat) (hj:j<64) (K:V→Option B):
 (AY P 211 (.rop 211 QO) (.int .i64 (j:Int))).bind (fun a=>(AX h 166 a).bind K)=K (.int .u32 (CJ.getD j 0:Int)):=by
 rw[ALF,ixK hj ANV,Option.bind_some,EK,Option.bind_some];rfl
theorem trn {B:Type} {h:List V} {x:Nat} (hx:x<4294967296) (m:Nat) (h1:1≤m) (h2:m≤31) (K:V×List V→Option B):
 (Cl 149 (AB h [.int .u32 (x:Int),.int .i64 (m:Int)]) []).bind K=K (.int .u32 (Eh x m:Int),[]):=by
 rw[ASs hx m h1 h2,Option.bind_some]
theorem AA {A B:Type} {o:Option A} {x:A} (h:o=some x) (K:A→Option B):o.bind K=K x:=by rw[h];rfl
theorem Hl {B:Type} {k:IntKind} {a b:Int} (h:a<b) (K:V→Option B):(AL .lss (.int k a) (.int k b)).bind K=K (.bool true):=by
 rw[b_lss,Option.bind_some,decide_eq_true h]
theorem IC {B:Type} {k:IntKind} {a b:Int} (h:¬a<b) (K:V→Option B):(AL .lss (.int k a) (.int k b)).bind K=K (.bool false):=by
 rw[b_lss,Option.bind_some,decide_eq_false h]
theorem BU {B:Type} (a b:Option B):V.ite (.bool true) a b=a:=rfl
theorem BV {B:Type} (a b:Option B):V.ite (.bool false) a b=b:=rfl
theorem AHd {h:List V} {v:List Nat} (hh:h[3]?=some (A8 v)) (hv:v.length=8) (K:V→V→V→V→V→V→Option (V×List V)):
 Qv (.ref 3 [] 197) h K=K (vw (v.getD 0 0)) (vw (v.getD 1 0)) (vw (v.getD 2 0)) (vw (v.getD 4 0)) (vw (v.getD 5 0)) (vw (v.getD 6 0)):=by
 unfold Qv
 exact(at8 hh hv 0 (by omega) _).trans<|(at8 hh hv 1 (by omega) _).trans<|(at8 hh hv 2 (by omega) _).trans<|(at8 hh hv 4 (by omega) _).trans<|(at8 hh hv 5 (by omega) _).trans<|(at8 hh hv 6 (by omega) _)
def chE (e f g h7 k w:Nat):Nat:=ad (ad (ad (ad h7 ((Eh e 6 ^^^ Eh e 11) ^^^ Eh e 25)) (g ^^^ (e&&& (f ^^^ g)))) k) w
def mjA (a b c:Nat):Nat:=ad ((Eh a 2 ^^^ Eh a 13) ^^^ Eh a 22) ((a&&& b)|||(c&&& (a|||b)))
theorem AHe {h:List V} {v w:List Nat} {t e f g:Nat} (hh:h[3]?=some (A8 v)) (hv:v.length=8) (hw:h[2]?=some (TQ w)) (lw:w.length=64) (ht:t<64)
 (be:e<4294967296) (bf:f<4294967296) (bg:g<4294967296) (K:V→Option (V×List V)):
 Qw (.ref 2 [] 211) (.ref 3 [] 197) (.int .i64 (t:Int)) (vw e) (vw f) (vw g) h K=K (vw (chE e f g (v.getD 7 0) (CJ.getD t 0) (w.getD t 0))):=by
 have r1:=Au (n:=6) be;have r2:=Au (n:=11) be;have r3:=Au (n:=25) be
 unfold Qw
 refine(at8 hh hv 7 (by omega) _).trans ?_
 refine(trn be 6 (by omega) (by omega) _).trans<|(trn be 11 (by omega) (by omega) _).trans ?_
 refine(AA (u32_xor r1 r2) _).trans ?_
 refine(trn be 25 (by omega) (by omega) _).trans ?_
 refine(AA (u32_xor (EC r1 r2) r3) _).trans ?_
 refine(AA (Gs _ _) _).trans ?_
 refine(AA (u32_xor bf bg) _).trans ?_
 refine(AA (u32_and be (EC bf bg)) _).trans ?_
 refine(AA (u32_xor bg (EW be)) _).trans ?_
 refine(AA (Gs _ _) _).trans ?_
 refine(atK t ht _).trans ?_
 refine(AA (Gs _ _) _).trans ?_
 refine(Wq hw lw t ht _).trans ?_
 exact AA (Gs _ _) _
theorem AHf {h:List V} {a b c:Nat} (ba:a<4294967296) (bb:b<4294967296) (bc:c<4294967296) (K:V→Option (V×List V)):
 Qx (vw a) (vw b) (vw c) h K=K (vw (mjA a b c)):=by
 have r1:=Au (n:=2) ba;have r2:=Au (n:=13) ba;have r3:=Au (n:=22) ba
 unfold Qx
 refine(trn ba 2 (by omega) (by omega) _).trans<|(trn ba 13 (by omega) (by omega) _).trans ?_
 refine(AA (u32_xor r1 r2) _).trans ?_
 refine(trn ba 22 (by omega) (by omega) _).trans ?_
 refine(AA (u32_xor (EC r1 r2) r3) _).trans ?_
 refine(AA (u32_and ba bb) _).trans ?_
 refine(AA (u32_or ba bb) _).trans ?_
 refine(AA (u32_and bc (AHc ba bb)) _).trans ?_
 refine(AA (u32_or (EW ba) (EW bc)) _).trans ?_
 exact AA (Gs _ _) _
theorem AVa (z0 z1 z2 z3 z4 z5 z6 z7:Nat):bld P 197 [(0,.int .u32 (z0:Int)),(1,.int .u32 (z1:Int)),(2,.int .u32 (z2:Int)),(3,.int .u32 (z3:Int)),(4,.int .u32 (z4:Int)),(5,.int .u32 (z5:Int)),(6,.int .u32 (z6:Int)),(7,.int .u32 (z7:Int))]=some (A8 [z0,z1,z2,z3,z4,z5,z6,z7]):=by
 simp[bld,Oe,AAU,CY,Bc,ANP,Bd,Wl,cp,AHQ,A8,MK,vw,List.replicate]
theorem AHg {h:List V} {v:List Nat} {a b c e f g x y:Nat} (hh:h[3]?=some (A8 v)) (hv:v.length=8) (K:List V→Option (V×List V)):
 Qy (.ref 3 [] 197) (vw a) (vw b) (vw c) (vw e) (vw f) (vw g) (vw x) (vw y) h K=K (h.set 3 (A8 [ad x y,a,b,c,ad (v.getD 3 0) x,e,f,g])):=by
 unfold Qy
 refine(AA (Gs _ _) _).trans ?_
 refine(at8 hh hv 3 (by omega) _).trans ?_
 refine(AA (Gs _ _) _).trans ?_
 refine(AA (AVa _ _ _ _ _ _ _ _) _).trans ?_
 exact AA (EM hh (by simp[Bc,Oe,A8]) (by simp only[A8,V.under];exact GY _ _)) _
theorem AHh (k w v:List Nat) (t:Nat):rnd k w t v=[ad (chE (v.getD 4 0) (v.getD 5 0) (v.getD 6 0) (v.getD 7 0) (k.getD t 0) (w.getD t 0)) (mjA (v.getD 0 0) (v.getD 1 0) (v.getD 2 0)),v.getD 0 0,v.getD 1 0,v.getD 2 0,
 ad (v.getD 3 0) (chE (v.getD 4 0) (v.getD 5 0) (v.getD 6 0) (v.getD 7 0) (k.getD t 0) (w.getD t 0)),v.getD 4 0,v.getD 5 0,v.getD 6 0]:=rfl
theorem AHi (k w:List Nat) (n t:Nat) (v:List Nat):RS k w (n+1) t v=RS k w n (t+1) (rnd k w t v):=rfl
theorem ALH (h w:List Nat) (hh:h.length=8) (hw:w.length=64) (bw:B32 w):∀(n t:Nat) (v:List Nat),t+n=64→B32 v→v.length=8→
 Pe (.ref 0 [] 197) (.ref 1 [] 197) (.ref 2 [] 211) (.ref 3 [] 197) (.int .i64 (t:Int)) [A8 h,A8 (List.replicate 8 0),TQ w,A8 v]=
  some (A8 (Nu (RS CJ w n t v) 8 0 h),[]):=by
 intro n
 induction n with
 |zero=>
  intro t v ht bv hv
  rw[Q8]
  have:¬((t:Int)<64):=by omega
  have l3:AX [A8 h,A8 (List.replicate 8 0),TQ w,A8 v] 197 (.ref 3 [] 197)=some (A8 v):=CG (Eg rfl)
  simp only[Qu,YM,b_lss,Option.bind_some,Gm,this,if_false,l3,RS]
  exact ALG v hv (A8 v) (TQ w) (A8 v) 8 0 h rfl hh
 |succ n ih=>
  intro t v ht bv hv
  rw[Q8]
  have hlt:(t:Int)<64:=by omega
  have ht':t<64:=by omega
  rw[Qu,Hl hlt,BU,YK]
  rw[AHd rfl hv,AHe rfl hv rfl hw ht' (bv.get 4) (bv.get 5) (bv.get 6),AHf (bv.get 0) (bv.get 1) (bv.get 2),AHg rfl hv,←AHh]
  simp only[YL,Bq]
  rw[show((t:Int)+1)=((t+1:Nat):Int)by omega,wrap_i64 (by omega) (by omega),AHi]
  have st:[A8 h,A8 (List.replicate 8 0),TQ w,A8 v].set 3 (A8 (rnd CJ w t v))=[A8 h,A8 (List.replicate 8 0),TQ w,A8 (rnd CJ w t v)]:=rfl
  rw[st]
  exact ih (t+1) _ (by omega) (AAY bv t).1 (AAY bv t).2
end
section
open Go AM
theorem JX {B:Type} {a b:Nat} (h:b≤a) (ha:a<2^62) (K:V→Option B):(AL .sub (.int .i64 (a:Int)) (.int .i64 (b:Int))).bind K=K (.int .i64 ((a-b:Nat):Int)):=by
 rw[Ku,show(a:Int)-(b:Int)=((a-b:Nat):Int)by omega,wrap_i64 (by omega) (by omega)];rfl
theorem Gt {B:Type} {a b:Nat} (h:a+b<2^62) (K:V→Option B):(AL .add (.int .i64 (a:Int)) (.int .i64 (b:Int))).bind K=K (.int .i64 ((a+b:Nat):Int)):=by
 rw[Bq,show(a:Int)+(b:Int)=((a+b:Nat):Int)by omega,wrap_i64 (by omega) (by omega)];rfl
theorem Yd {B:Type} {a b:Nat} (h:a*b<2^62) (K:V→Option B):(AL .mul (.int .i64 (a:Int)) (.int .i64 (b:Int))).bind K=K (.int .i64 ((a*b:Nat):Int)):=by
 rw[RG,←Int.natCast_mul,wrap_i64 (by omega) (by omega)];rfl
theorem APv {f:Fl} {t s:TypeId} {xs:List V} {a b:Nat} (k:K P s= .slice t) (h1:a≤b) (h2:b≤xs.length):
 KZ P s (V.weak (.lst t f xs)) (some (.int .i64 (a:Int))) (some (.int .i64 (b:Int))) none=some (.lst t f.cut ((xs.take b).drop a)):=by
 have e1:(0:Int)≤(b:Int)∧b≤xs.length:=⟨by omega,h2⟩
 have e2:(0:Int)≤(a:Int)∧(a:Int)≤(b:Int):=⟨by omega,by omega⟩
 cases f<;>simp[KZ,V.weak,k,CQ,e1,e2,Fl.cut,h1,h2]
section
variable {h:List V} {w:List Nat} {t:Nat}
variable (hw:h[2]?=some (TQ w)) (lw:w.length=64) (bw:B32 w) (ht:t<64)
include hw lw bw ht
theorem AHj (h16:16≤t) (K:V→Option (V×List V)):
 Qq (.ref 2 [] 211) (.int .i64 (t:Int)) h K=K (vw (sg0 (w.getD (t-15) 0))):=by
 have b:=bw.get (t-15)
 unfold Qq
 refine(JX (b:=15) (by omega) (by omega) _).trans<|(Wq hw lw (t-15) (by omega) _).trans<|(trn b 7 (by omega) (by omega) _).trans ?_
 refine(JX (b:=15) (by omega) (by omega) _).trans<|(Wq hw lw (t-15) (by omega) _).trans<|(trn b 18 (by omega) (by omega) _).trans ?_
 refine(AA (u32_xor (Au b) (Au b)) _).trans ?_
 refine(JX (b:=15) (by omega) (by omega) _).trans<|(Wq hw lw (t-15) (by omega) _).trans ?_
 refine(AA (Po 3 (by omega)) _).trans ?_
 exact AA (u32_xor (EC (Au b) (Au b)) (KA _ b)) _
theorem AHk (h16:16≤t) (K:V→Option (V×List V)):
 Qr (.ref 2 [] 211) (.int .i64 (t:Int)) h K=K (vw (sg1 (w.getD (t-2) 0))):=by
 have b:=bw.get (t-2)
 unfold Qr
 refine(JX (b:=2) (by omega) (by omega) _).trans<|(Wq hw lw (t-2) (by omega) _).trans<|(trn b 17 (by omega) (by omega) _).trans ?_
 refine(JX (b:=2) (by omega) (by omega) _).trans<|(Wq hw lw (t-2) (by omega) _).trans<|(trn b 19 (by omega) (by omega) _).trans ?_
 refine(AA (u32_xor (Au b) (Au b)) _).trans ?_
 refine(JX (b:=2) (by omega) (by omega) _).trans<|(Wq hw lw (t-2) (by omega) _).trans ?_
 refine(AA (Po 10 (by omega)) _).trans ?_
 exact AA (u32_xor (EC (Au b) (Au b)) (KA _ b)) _
theorem AHl (h16:16≤t) (x y:Nat) (K:List V→Option (V×List V)):
 Qs (.ref 2 [] 211) (.int .i64 (t:Int)) (vw x) (vw y) h K=K (h.set 2 (TQ (w.set t (ad (ad (ad (w.getD (t-16) 0) (w.getD (t-7) 0)) x) y)))):=by
 unfold Qs
 refine(JX (b:=16) (by omega) (by omega) _).trans<|(Wq hw lw (t-16) (by omega) _).trans ?_
 refine(JX (b:=7) (by omega) (by omega) _).trans<|(Wq hw lw (t-7) (by omega) _).trans ?_
 refine(AA (Gs _ _) _).trans ?_
 refine(AA (Gs _ _) _).trans ?_
 refine(AA (Gs _ _) _).trans ?_
 refine(AA (APs ht) _).trans ?_
 exact AA (st64 hw (by omega)) _
end
theorem ACy (n t:Nat) (w:List Nat):Ky (n+1) t w=Ky n (t+1) (w.set t (ad (ad (ad (w.getD (t-16) 0) (w.getD (t-7) 0)) (sg0 (w.getD (t-15) 0))) (sg1 (w.getD (t-2) 0)))):=rfl
theorem ALI (p:List UInt8) (n t:Nat) (w:List Nat):Kw p (n+1) t w=Kw p n (t+1) (w.set t (wordAt p t)):=rfl
theorem ALJ (h:List Nat) (hh:h.length=8) (bh:B32 h):∀(n t:Nat) (w:List Nat),t+n=64→16≤t→B32 w→w.length=64→
 PZ (.ref 0 [] 197) (.ref 1 [] 197) (.ref 2 [] 211) (.int .i64 (t:Int)) [A8 h,A8 (List.replicate 8 0),TQ w]=
  some (A8 (Nu (RS CJ (Ky n t w) 64 0 h) 8 0 h),[]):=by
 intro n
 induction n with
 |zero=>
  intro t w ht h16 bw lw
  rw[Q9,Wi,IC (by omega),BV,YJ]
  have z:zero P 197=A8 (List.replicate 8 0):=by rw[AAU];rfl
  have l0:AX [A8 h,A8 (List.replicate 8 0),TQ w] 197 (.ref 0 [] 197)=some (A8 h):=CG (Eg rfl)
  rw[l0,z]
  refine(AA (EM (h:=[A8 h,A8 (List.replicate 8 0),TQ w]++[A8 (List.replicate 8 0)]) rfl (by simp[Bc,Oe,A8]) (by simp only[A8,V.under];exact GY _ _)) _).trans ?_
  exact ALH h w hh lw bw 64 0 h rfl bh hh
 |succ n ih=>
  intro t w ht h16 bw lw
  rw[Q9,Wi,Hl (by omega),BU,AHj rfl lw bw (by omega) h16,AHk rfl lw bw (by omega) h16,AHl rfl lw bw (by omega) h16,YI,ACy]
  refine(Gt (b:=1) (by omega) _).trans ?_
  exact ih (t+1) _ (by omega) (by omega) (bw.set t (Ua _ _)) (by simp[lw])
theorem ALK (h:List Nat) (hh:h.length=8) (bh:B32 h) (p:List UInt8) (hp:p.length=64) (f:Fl):∀(n t:Nat) (w:List Nat),t+n=16→B32 w→w.length=64→
 PY (.lst 5 f (bytesOf p)) (.ref 0 [] 197) (.ref 1 [] 197) (.ref 2 [] 211) (.int .i64 (t:Int)) [A8 h,A8 (List.replicate 8 0),TQ w]=
  some (A8 (Nu (RS CJ (Ky 48 16 (Kw p n t w)) 64 0 h) 8 0 h),[]):=by
 intro n
 induction n with
 |zero=>
  intro t w ht bw lw
  rw[RD,WZ,IC (by omega),BV,ACj]
  exact ALJ h hh bh 48 16 w rfl (by omega) bw lw
 |succ n ih=>
  intro t w ht bw lw
  rw[RD,WZ,Hl (by omega),BU,ACg,ACh]
  refine(Yd (a:=4) (by omega) _).trans<|(Yd (a:=4) (by omega) _).trans<|(Gt (b:=4) (by omega) _).trans ?_
  refine(AA (APv (f:=f) (t:=5) (xs:=bytesOf p) Ea (a:=4*t) (b:=4*t+4) (by omega) (by simp[bytesOf];omega)) _).trans ?_
  rw[ALD (by omega) (by omega) rfl lw,ACi,ALI]
  refine(Gt (b:=1) (by omega) _).trans ?_
  exact ih (t+1) _ (by omega) (bw.set t (Nr p t)) (by simp[lw])
theorem ALM {h:List Nat} (hh:h.length=8) (bh:B32 h) {p:List UInt8} (hp:p.length=64) (f:Fl):
 Cl 133 [A8 h,.lst 5 f (bytesOf p)] []=some (A8 (Ub h p),[]):=by
 have tk:(Bc P 197 (A8 h)&&V.under (List.length ([]:List V)) (A8 h))=true:=by
  simp only[A8,V.under,GY,Bc,Oe];simp
 rw[AKx,ACd,if_pos tk,ACe,ACf,AAU,APY]
 have z32:B32 (List.replicate 64 0):=fun x hx=>by rw[List.eq_of_mem_replicate hx];decide
 exact ALK h hh bh p hp f 16 0 (List.replicate 64 0) rfl z32 rfl
end
section
open Go AM
section
variable {B:Type} {s e u:TypeId} {f:Fl} {xs:List V} {h:List V}
theorem JY:∃g,V.weak (.lst e f xs)= .lst e g xs:=by cases f<;>exact⟨_,rfl⟩
theorem AD2 (hu:P.underlying s=some (.slice u)) (K:V→Option B):(lenV P s (.lst e f xs)).bind K=K (.int .i64 (xs.length:Int)):=by
 simp[lenV,hu]
theorem AAZ (hu:P.underlying s=some (.slice u)) (K:V→Option B):(lenV P s (V.weak (.lst e f xs))).bind K=K (.int .i64 (xs.length:Int)):=by
 obtain⟨g,hg⟩:=JY (e:=e) (f:=f) (xs:=xs);rw[hg];exact AD2 hu K
theorem AD3 (hk:K P s= .slice e) {i:Nat} {v:V} (hv:xs[i]?=some v) (K:V→Option B):
 (AY P s (.lst e f xs) (.int .i64 (i:Int))).bind K=K (.rop e v):=by
 have hi:=IB hv
 have:inside (i:Int) xs.length=true:=by simp[inside,hi]
 simp[AY,hk,this,hv]
theorem AD4 (hk:K P s= .slice e) {i:Nat} {v:V} (hv:xs[i]?=some v) (K:V→Option B):
 (AY P s (V.weak (.lst e f xs)) (.int .i64 (i:Int))).bind K=K (.rop e v):=by
 obtain⟨g,hg⟩:=JY (e:=e) (f:=f) (xs:=xs);rw[hg];exact AD3 hk hv K
theorem ldR {v:V} (K:V→Option B):(AX h e (.rop e v)).bind K=K v:=by rw[EK];rfl
theorem ALN {v:V} (K:V→Option B):(CU h e (.rop e v)).bind K=K v.weak:=by rw[CU,EK];rfl
theorem AD5 (hk:K P s= .slice e) (hf:f= .own∨f= .nil) {y:V} {ys:List V} (hy:Ai h y=some ys) (hc:AU ys=true) (ht:Hq P e ys=true) (hl:xs.length+ys.length≤2147483648) (hn:CS P depth e=false) (hne:f= .nil→ys.isEmpty=false:=by first|(intro h;cases h;done)|(intro _;rfl)):
 EP P s h (.lst e f xs) y=some (.lst e .own (xs++ys)):=by
 rcases hf with rfl|rfl
 ·simp[EP,hk,hy,hc,ht,hl,EI,D8,hn]
 ·have:=hne rfl
  cases ys with
  |nil=>cases this
  |cons y0 ys0=>simp[EP,hk,hy,hc,ht,hl,EI,D8,hn]<;>exact decide_eq_true (by simpa using hl)
theorem AHm (hk:K P s= .slice e) {v:V} (ht:Bc P e v=true) (hc:v.clean=true) (hn:CS P depth e=false) (hz:∃z,zero P e=z):
 DR P s 1 [(0,v)]=some (.lst e .own [v]):=by
 simp[DR,hk,CY,ht,List.replicate,cp,hn,AU,hc,D8]
end
def bL (f:Fl) (l:List UInt8):V:= .lst 5 f (bytesOf l)
theorem Aq (l:List UInt8):(bytesOf l).length=l.length:=by simp[bytesOf]
theorem Hu (a b:List UInt8):bytesOf (a++b)=bytesOf a++bytesOf b:=by simp[bytesOf]
theorem bytesOf_take (n:Nat) (a:List UInt8):(bytesOf a).take n=bytesOf (a.take n):=by simp[bytesOf,List.map_take]
theorem bytesOf_drop (n:Nat) (a:List UInt8):(bytesOf a).drop n=bytesOf (a.drop n):=by simp[bytesOf,List.map_drop]
theorem DN:∀l:List UInt8,AU (bytesOf l)=true
 |[]=>rfl
 |x::l=>by simp only[bytesOf,List.map_cons,AU];rw[show List.map _ l=bytesOf l from rfl,DN l];rfl
theorem Pv (x:Int):Bc P 5 (.int .u8 x)=true:=by simp[Bc,K_5,Bd,Ob]
theorem Hw (l:List UInt8):Hq P 5 (bytesOf l)=true:=by
 simp[Hq,bytesOf,Pv]
theorem Kz {B:Type} {f:Fl} {l:List UInt8} (K':V→Option B):(lenV P 117 (V.weak (bL f l))).bind K'=K' (.int .i64 (l.length:Int)):=by
 rw[bL,AAZ J5,Aq]
theorem ASu {B:Type} {f:Fl} {l:List UInt8} (K':V→Option B):(lenV P 117 (bL f l)).bind K'=K' (.int .i64 (l.length:Int)):=by
 rw[bL,AD2 J5,Aq]
theorem APw {f:Fl} {h:List V} {l m:List UInt8} {g:Fl} (hf:f= .own∨f= .nil) (hl:l.length+m.length≤2147483648) (hne:f= .nil→m.isEmpty=false:=by first|(intro h;cases h;done)|(intro _;rfl)):
 EP P 117 h (bL f l) (bL g m)=some (bL .own (l++m)):=by
 rw[bL,AD5 Ea hf (y:=bL g m) (ys:=bytesOf m) rfl (DN m) (Hw m) (by simpa [Aq]using hl) YR (fun h=>by have:=hne h;cases m<;>first|(cases this;done)|rfl),bL,Hu]
theorem AHn (x:Nat) (hx:x<256):DR P 117 1 [(0,.int .u8 (x:Int))]=some (bL .own [UInt8.ofNat x]):=by
 rw[AHm Ea (Pv _) rfl YR ⟨_,rfl⟩,bL]
 simp[bytesOf,Nat.mod_eq_of_lt hx]
theorem app1 {B:Type} {f:Fl} {h:List V} {l:List UInt8} (hf:f= .own∨f= .nil) (hl:l.length+1≤2147483648) (x:Nat) (hx:x<256) (K':V→Option B):
 (DR P 117 1 [(0,.int .u8 (x:Int))]).bind (fun y=>(EP P 117 h (bL f l) y).bind K')=K' (bL .own (l++[UInt8.ofNat x])):=by
 rw[AHn x hx]
 exact AA (APw hf (by simpa using hl) (fun _=>rfl)) K'
end
section
open Go AM
def part (p:Fl×List UInt8):V:=bL p.1 p.2
def parts (L:List (Fl×List UInt8)):List V:=L.map part
def flat (L:List (Fl×List UInt8)):List UInt8:=(L.map (·.2)).flatten
theorem Gu:∀l:List UInt8,AP (bytesOf l)=bytesOf l
 |[]=>rfl
 |x::l=>by simp only[bytesOf,List.map_cons,AP];rw[show List.map _ l=bytesOf l from rfl,Gu l];rfl
theorem Ue {L:List (Fl×List UInt8)} {i:Nat} (hi:i<L.length):(parts L)[i]?=some (part L[i]):=by
 simp[parts,hi]
theorem KC (p:Fl×List UInt8):∃g,(part p).weak=bL g p.2:=by
 obtain⟨f,l⟩:=p;exact JY
theorem AHo {s e:TypeId} {id off len a:Nat} {p:List Nat} (k:K P s= .slice e) (h1:a≤len):
 KZ P s (V.weak (.win id p off len e)) (some (.int .i64 (a:Int))) none none=some (.win id p (off+a) (len-a) e):=by
 have e2:(0:Int)≤(a:Int)∧(a:Int)≤(len:Int):=⟨by omega,by omega⟩
 simp[KZ,V.weak,k,CQ,e2,h1]
theorem AAa {e:TypeId} {s:TypeId} {off len:Nat} {xs ys:List V} {y:V} (k:K P s= .slice e) (hy:Ai [.row e xs] y=some ys) (hc:AU ys=true) (ht:Hq P e ys=true) (hn:CS P depth e=false) (hl:ys.length≤len):
 cpy P s [.row e xs] (.win 0 [] off len e) y=some (.int .i64 (ys.length:Int),[.row e (xs.take off++ys++xs.drop (off+ys.length))]):=by
 have m:min ys.length len=ys.length:=by omega
 simp[cpy,GL,k,hy,hc,ht,rd,V.at,V.items,wr,V.upd,D8,hn,m]
theorem La (p:Fl×List UInt8) (L:List (Fl×List UInt8)):flat (p::L)=p.2++flat L:=rfl
theorem ALO (fs:Fl) (L:List (Fl×List UInt8)) (hL:L.length<2147483648) (f:Fl) (N:Nat) (hN:N<2147483648) (h0:0<N):∀(n i:Nat) (done:List UInt8),i+n=L.length→N=done.length+(flat (L.drop i)).length→
 PX (.lst 5 fs []) (.win 0 [] 0 N 5) (.int .i64 (done.length:Int)) (.lst 117 f (parts L)) (.int .i64 (L.length:Int)) (.int .i64 (i:Int)) [.row 5 (bytesOf done++List.replicate (N-done.length) .undef)]=
  some (bL .own (done++flat (L.drop i)),[]):=by
 intro n
 induction n with
 |zero=>
  intro i done hi hn
  have hd:L.drop i=[]:=by simp;omega
  rw[hd]at hn⊢
  simp only[flat,List.map_nil,List.flatten_nil,List.length_nil,Nat.add_zero,List.append_nil]at hn⊢
  subst hn
  rw[Qo,Qn,IC (by omega),BV,YH]
  have c:Ai [V.row 5 (bytesOf done)] (.win 0 [] 0 done.length 5)=some (bytesOf done):=by
   simp[Ai,rd,V.at,V.items,Aq]
   rw[List.take_of_length_le (by simp[Aq])]
  simp[TP,c,DN,Gu,bL,Nat.ble,Nat.blt,Nat.ble_eq]
  exact List.ne_nil_of_length_pos h0
 |succ n ih=>
  intro i done hi hn
  have hlt:i<L.length:=by omega
  rw[Qo,Qn,Hl (by omega),BU,YD]
  refine(AD3 RF (Ue hlt) _).trans<|(ALN _).trans ?_
  obtain⟨g,hg⟩:=KC L[i]
  rw[hg]
  rw[YE]
  refine(AA (AHo Ea (by omega)) _).trans ?_
  refine(AA (AAa (ys:=[]) Ea (by cases fs<;>rfl) rfl rfl YR (Nat.zero_le _)) _).trans ?_
  refine(Gt (b:=0) (by simp;omega) _).trans ?_
  simp only[List.length_nil,Nat.add_zero,Nat.zero_add,List.append_nil,List.take_append_drop]
  rw[YF]
  have hd:flat (L.drop i)=L[i].2++flat (L.drop (i+1)):=by rw[List.drop_eq_getElem_cons hlt,La]
  rw[hd]at hn⊢
  rw[List.length_append]at hn
  refine(AA (AHo Ea (by omega)) _).trans ?_
  refine(AA (AAa (ys:=bytesOf L[i].2) Ea rfl (DN _) (Hw _) YR (by rw[Aq];omega)) _).trans ?_
  rw[Aq]
  refine(Gt (by omega) _).trans ?_
  rw[YG]
  refine(Gt (b:=1) (by omega) _).trans ?_
  have:=ih (i+1) (done++L[i].2) (by omega) (by simp;omega)
  rw[List.append_assoc,List.length_append]at this
  rw[←this]
  congr 1
  simp[Hu,Aq,List.take_append,List.drop_append,List.take_of_length_le,List.drop_eq_nil_of_le]
  omega
theorem AVb {R:Type} {n:Nat} {h:List V} (hn:n≤2147483648) (k:V→List V→Option R):mnz P 0 148 [.int .i64 (n:Int)] h k=k (.win h.length [] 0 n 5) (h++[.row 5 (List.replicate n .undef)]):=by
 have:(0:Nat)=0∧(0:Int)≤(n:Int)∧(n:Int)≤(EI:Int):=⟨rfl,by omega,by simp only[EI];omega⟩
 unfold mnz
 refine(if_pos this).trans ?_
 have key:∀e:TypeId,e=5→k (.win h.length [] 0 (n:Int).toNat e) (h++[.row e (List.replicate (n:Int).toNat .undef)])=k (.win h.length [] 0 n 5) (h++[.row 5 (List.replicate n .undef)]):=by rintro _ rfl;rfl
 exact key _ (by kernel_rfl)
theorem ALP {s e:TypeId} {id off len b:Nat} {p:List Nat} (k:K P s= .slice e) (h1:b≤len):
 KZ P s (.win id p off len e) none (some (.int .i64 (b:Int))) (some (.int .i64 (b:Int)))=some (.win id p off b e):=by
 have e2:(0:Int)≤(b:Int)∧(b:Int)≤(len:Int):=⟨by omega,by omega⟩
 simp[KZ,V.weak,k,CQ,e2,h1]
theorem ALQ (fs:Fl) (L:List (Fl×List UInt8)) (hL:L.length<2147483648) (hL0:0<L.length) (f:Fl) (hN:(flat L).length<2147483648) (h0:0<(flat L).length):∀(n i acc:Nat),i+n=L.length→acc+(flat (L.drop i)).length=(flat L).length→
 PW (.lst 117 f (parts L)) (.lst 5 fs []) (.int .i64 (acc:Int)) (V.weak (.lst 117 f (parts L))) (.int .i64 (L.length:Int)) (.int .i64 (i:Int)) []=
  some (bL .own (flat L),[]):=by
 intro n
 induction n with
 |zero=>
  intro i acc hi hn
  have hd:L.drop i=[]:=by simp;omega
  rw[hd]at hn
  have e0:(flat ([]:List (Fl×List UInt8))).length=0:=rfl
  rw[Qp,Qm,IC (by omega),BV,YA]
  have hacc:acc=(flat L).length:=by omega
  subst hacc
  rw[AVb (by omega)]
  refine(AA (ALP Ea (Nat.le_refl _)) _).trans ?_
  obtain⟨p,L',rfl⟩:=List.exists_cons_of_length_pos hL0
  rw[YB]
  refine(AD4 (i:=0) (v:=part p) RF rfl _).trans<|(ALN _).trans ?_
  obtain⟨g,hg⟩:=KC p
  rw[hg]
  refine(AA (AAa (ys:=bytesOf p.2) Ea rfl (DN _) (Hw _) YR (by rw[Aq,La,List.length_append];omega)) _).trans ?_
  rw[YC]
  have sl:KZ P 195 (.lst 117 f (parts (p::L'))) (some (.int .i64 1)) none none=some (.lst 117 f.cut (parts L')):=by
   have e1:(1:Int)≤((parts L').length:Int)+1:=by omega
   simp[KZ,RF,CQ,parts,e1]
   constructor
   ·omega
   ·rw[List.take_of_length_le (by simp)]
  refine(AA sl _).trans ?_
  refine(AD2 Pj _).trans ?_
  have:=ALO fs L' (by simp at hL;omega) f.cut (flat (p::L')).length hN h0 L'.length 0 p.2 (by omega) (by rw[La,List.length_append];rfl)
  simp only[List.drop_zero]at this
  rw[←La]at this
  refine Eq.trans ?_ this
  simp only[parts,List.length_map,Aq,List.length_nil,List.nil_append,List.take_zero,Nat.zero_add,List.drop_replicate]
  rfl
 |succ n ih=>
  intro i acc hi hn
  have hlt:i<L.length:=by omega
  have hd:flat (L.drop i)=L[i].2++flat (L.drop (i+1)):=by rw[List.drop_eq_getElem_cons hlt,La]
  rw[hd,List.length_append]at hn
  rw[Qp,Qm,Hl (by omega),BU,X6]
  refine(AD4 RF (Ue hlt) _).trans<|(ALN _).trans ?_
  obtain⟨g,hg⟩:=KC L[i]
  rw[hg,X7]
  refine Kz _ |>.trans ?_
  refine(AA (Ku _ _ _) _).trans ?_
  rw[wrap_i64 (by omega) (by omega)]
  refine(AA (b_gtr _ _ _) _).trans ?_
  rw[decide_eq_false (by omega),BV,X8]
  refine ASu _ |>.trans ?_
  refine(Gt (by omega) _).trans ?_
  rw[X9]
  refine(Gt (b:=1) (by omega) _).trans ?_
  exact ih (i+1) (acc+L[i].2.length) (by omega) (by omega)
theorem ALR (fs:Fl) (L:List (Fl×List UInt8)) (hL:L.length<2147483648) (f:Fl) (hN:(flat L).length<2147483648) (h0:0<(flat L).length):
 Cl 132 [.lst 117 f (parts L),.lst 5 fs []] []=some (bL .own (flat L),[]):=by
 have hL0:0<L.length:=by
  cases L with
  |nil=>cases h0
  |cons=>simp
 have lp:(parts L).length=L.length:=by simp[parts]
 rw[AKw,ACX,ACY]
 refine(AAZ Pj _).trans ?_
 rw[lp]
 refine(AA (b_eql _ _ _) _).trans ?_
 rw[decide_eq_false (by omega),BV,ACZ]
 refine(AAZ Pj _).trans ?_
 rw[lp]
 refine(AA (b_eql _ _ _) _).trans ?_
 by_cases h1:L.length=1
 ·rw[decide_eq_true (by omega),BU,ACa]
  match L,h1 with
  |[p],_=>
   refine(AD3 (i:=0) (v:=part p) RF rfl _).trans<|(ALN _).trans ?_
   obtain⟨g,hg⟩:=KC p
   have e:flat [p]=p.2:=by simp[flat]
   rw[e]at hN h0⊢
   rw[hg]
   have a:=APw (f:= .nil) (h:=[]) (l:=[]) (m:=p.2) (g:=g) (Or.inr rfl) (by simp;omega) (fun _=>by cases hp:p.2 with|nil=>rw[hp]at h0;simp at h0|cons=>rfl)
   refine(AA a _).trans ?_
   refine(AA (show Dp [] (bL .own ([]++p.2))=some (.win 0 [] 0 p.2.length 5,[.row 5 (bytesOf p.2)])by simp[Dp,bL,Aq]) _).trans ?_
   have c:Ai [V.row 5 (bytesOf p.2)] (.win 0 [] 0 p.2.length 5)=some (bytesOf p.2):=by
    simp[Ai,rd,V.at,V.items,Aq]
    rw[List.take_of_length_le (by simp[Aq])]
   simp[TP,c,DN,Gu,bL,Nat.ble,Nat.blt,Nat.ble_eq]
   exact List.ne_nil_of_length_pos h0
 ·rw[decide_eq_false (by omega),BV,ACb,ACc]
  refine(AAZ J5 _).trans ?_
  refine(AA (b_gtr _ _ _) _).trans ?_
  simp only[jn,List.length_nil]
  rw[decide_eq_false (by omega),BV,X5]
  refine(AAZ Pj _).trans ?_
  rw[lp]
  exact ALQ fs L hL hL0 f hN h0 L.length 0 0 (by omega) (by simp)
end
section
open Go AM
def Nv (n:Nat):Nat:=(120-n%64)%64
def lb (n i:Nat):UInt8:=UInt8.ofNat (n/2^(56-8*i)%256)
def IV (n:Nat):Nat→Nat→List UInt8
 |0,_=>[]
 |k+1,i=>lb n i::IV n k (i+1)
def AHp (l:List UInt8):List UInt8:=(l++[128])++List.replicate (Nv (l.length+1)) 0++IV (8*l.length) 8 0
def blocks:Nat→List Nat→List UInt8→List Nat
 |0,h,_=>h
 |n+1,h,p=>blocks n (Ub h (p.take 64)) (p.drop 64)
def dg (st:List Nat) (i:Nat):UInt8:=UInt8.ofNat (st.getD (i/4) 0/2^(24-8*(i%4))%256)
def Gv (st:List Nat):Nat→Nat→List UInt8→List UInt8
 |0,_,w=>w
 |n+1,i,w=>Gv st n (i+1) (w.set i (dg st i))
def FI:List Nat:=(match Tn with|V.agg _ l=>l|_=>[]).map fun v=>match v with|V.int _ n=>n.toNat|_=>0
def ASv (l:List UInt8):List Nat:=blocks ((AHp l).length/64) FI (AHp l)
def Ye (l:List UInt8):List UInt8:=Gv (ASv l) 32 0 (List.replicate 32 0)
def Bh (l:List UInt8):V:= .agg 44 (bytesOf l)
theorem ALS:Tn=A8 FI:=by kernel_rfl
theorem AHq:FI.length=8:=by kernel_rfl
theorem ANX:B32 FI:=by
 have h:FI.all (fun x=>decide (x<4294967296))=true:=by kernel_rfl
 intro x hx
 have:=List.all_eq_true.1 h x hx
 exact of_decide_eq_true this
theorem ML {h:List Nat} (p:List UInt8) (bh:B32 h) (hh:h.length=8):B32 (Ub h p)∧(Ub h p).length=8:=ACx _ _ _ bh hh
theorem Uf (st:List Nat):∀(n i:Nat) (w:List UInt8),(Gv st n i w).length=w.length
 |0,_,_=>rfl
 |n+1,i,w=>by rw[Gv,Uf st n];simp
theorem Px (l:List UInt8):(Ye l).length=32:=by rw[Ye,Uf];rfl
theorem AD6 (l:List UInt8) (i:Nat) (x:UInt8):(bytesOf l).set i (.int .u8 (x.toNat:Int))=bytesOf (l.set i x):=by
 simp[bytesOf,List.map_set]
theorem ASw (x:Nat) (hx:x<256):(V.int .u8 (x:Int))= .int .u8 ((UInt8.ofNat x).toNat:Int):=by
 simp[Nat.mod_eq_of_lt hx]
theorem Og (n:Nat):∀l:List UInt8,Aa n (bytesOf l)=true
 |[]=>rfl
 |x::l=>by simp only[bytesOf,List.map_cons,Aa];rw[show List.map _ l=bytesOf l from rfl,Og n l];rfl
theorem RU (n:Nat):∀l:List UInt8,Dy n (bytesOf l)=true
 |[]=>rfl
 |x::l=>by simp only[bytesOf,List.map_cons,Dy];rw[show List.map _ l=bytesOf l from rfl,RU n l];rfl
theorem Oh (h:List V):∀l:List UInt8,DU h (bytesOf l)=bytesOf l
 |[]=>rfl
 |x::l=>by simp only[bytesOf,List.map_cons,DU];rw[show List.map _ l=bytesOf l from rfl,Oh h l];rfl
theorem Oi (h:List V):∀l:List UInt8,AB h (bytesOf l)=bytesOf l
 |[]=>rfl
 |x::l=>by simp only[bytesOf,List.map_cons,AB];rw[show List.map _ l=bytesOf l from rfl,Oi h l];rfl
theorem Ug (h:List V):∀l:List Nat,AB h (MK l)=MK l
 |[]=>rfl
 |x::l=>by simp only[MK,List.map_cons,AB];rw[show List.map vw l=MK l from rfl,Ug h l];rfl
theorem AHr (h:List V) (l:List Nat):V.reify h (A8 l)=A8 l:=by simp only[A8,V.reify,Ug]
theorem Yf (h:List V) (f:Fl) (l:List UInt8):∃g,V.reify h (bL f l)=bL g l:=by
 cases f<;>simp only[bL,V.reify,Oi]<;>exact⟨_,rfl⟩
theorem Ws (n:Nat) (h:List V) (l:List UInt8):AQ n h (Bh l)=some (Bh l,h.take n):=by
 simp only[AQ,Bh,V.unmut,Oh,V.norm,Gu,V.clean,DN,V.over,RU,Bool.and_self,if_true]
theorem ALT:zero P 45=Bh (List.replicate 32 0):=by rw[ASD];rfl
theorem ACz (l:List UInt8):Bc P 45 (Bh l)=true:=by simp[Bc,APV,Bh]
theorem AC0 (n:Nat) (l:List UInt8):(Bh l).under n=true:=by simp only[Bh,V.under];exact Og _ _
theorem ASx (l:List Nat):Bc P 197 (A8 l)=true:=by simp[Bc,Oe,A8]
theorem ASy (n:Nat) (l:List Nat):(A8 l).under n=true:=by simp only[A8,V.under];exact GY _ _
theorem AVc {id i:Nat} (hi:i<32):AY P 45 (.ref id [] 45) (.int .i64 (i:Int))=some (.ref id [i] 5):=by
 have:inside (i:Int) 32=true:=by simp[inside];omega
 simp[AY,APV,this]
theorem AVd {h:List V} {id i x:Nat} {l:List UInt8} (hh:h[id]?=some (Bh l)) (hi:i<l.length) (hx:x<256):FW P h 5 (.ref id [i] 5) (.int .u8 (x:Int))=some (h.set id (Bh (l.set i (UInt8.ofNat x)))):=by
 rw[J6 hh (Ns hi) (Pv _) rfl,ASw x hx,AD6];rfl
theorem APx {h:List V} {st:List Nat} {w:List UInt8} {i:Nat} (hs:h[1]?=some (A8 st)) (hst:st.length=8) (hw:h[2]?=some (Bh w)) (lw:w.length=32) (hi:i<32) (K:List V→Option (V×List V)):
 Qd (.ref 1 [] 197) (.ref 2 [] 45) (.int .i64 (i:Int)) h K=K (h.set 2 (Bh (w.set i (dg st i)))):=by
 unfold Qd
 refine(AA (YS _ _ _ (by omega)) _).trans ?_
 rw[show(i:Int).tdiv 4=((i/4:Nat):Int)by rfl,wrap_i64 (by omega) (by omega)]
 refine(at8 hs hst (i/4) (by omega) _).trans ?_
 refine(AA (MH _ _ _ (by omega)) _).trans ?_
 rw[show(i:Int).tmod 4=((i%4:Nat):Int)by rfl]
 refine(Yd (a:=8) (by omega) _).trans<|(JX (a:=24) (by omega) (by omega) _).trans ?_
 refine(AA (Bv Ph ..) _).trans ?_
 rw[wrap_u64 (by omega) (by omega)]
 refine(AA (Po _ (by omega)) _).trans ?_
 refine(AA (Bv Ob ..) _).trans ?_
 rw[JW]
 refine(AA (AVc hi) _).trans ?_
 exact AA (AVd hw (by omega) (Nat.mod_lt _ (by decide))) _
theorem ASz {st:List Nat} (hst:st.length=8) (z:List UInt8):∀(n i:Nat) (w:List UInt8),i+n=32→w.length=32→
 PO (.ref 0 [] 45) (.ref 1 [] 197) (.ref 2 [] 45) (.int .i64 (i:Int)) [Bh z,A8 st,Bh w]=some (Bh (Gv st n i w),[]):=by
 intro n
 induction n with
 |zero=>
  intro i w hi hw
  rw[Qe,Qc,IC (by omega),BV,X4]
  refine(AA (CG (v:=Bh w) (Eg rfl)) _).trans ?_
  refine(AA (EM (w:=Bh z) rfl (ACz _) (AC0 _ _)) _).trans ?_
  refine(AA (CG (v:=Bh w) (Eg rfl)) _).trans ?_
  exact Ws _ _ _
 |succ n ih=>
  intro i w hi hw
  rw[Qe,Qc,Hl (by omega),BU,X0,APx rfl hst rfl hw (by omega),X3]
  refine(Gt (b:=1) (by omega) _).trans ?_
  exact ih (i+1) _ (by omega) (by simp[hw])
theorem AS0:∀(n:Nat) (f:Fl) (p:List UInt8) (st:List Nat),p.length=64*n→p.length<2147483648→B32 st→st.length=8→
 PN (.ref 0 [] 45) (bL f p) (.ref 1 [] 197) [Bh (List.replicate 32 0),A8 st]=some (Bh (Gv (blocks n st p) 32 0 (List.replicate 32 0)),[]):=by
 intro n
 induction n with
 |zero=>
  intro f p st hp hlt bs hst
  rw[Qg,Qb]
  refine Kz _ |>.trans ?_
  refine(AA (b_gtr _ _ _) _).trans ?_
  rw[decide_eq_false (by omega),BV,Xy,Xz,ALT]
  exact ASz hst _ 32 0 _ rfl rfl
 |succ n ih=>
  intro f p st hp hlt bs hst
  rw[Qg,Qb]
  refine Kz _ |>.trans ?_
  refine(AA (b_gtr _ _ _) _).trans ?_
  rw[decide_eq_true (by omega),BU,Xw]
  refine(AA (CG (v:=A8 st) (Eg rfl)) _).trans ?_
  have sl:KZ P 117 (V.weak (bL f p)) none (some (.int .i64 64)) none=some (bL f.cut (p.take 64)):=by
   have:=APv (f:=f) (t:=5) (xs:=bytesOf p) Ea (a:=0) (b:=64) (by omega) (by rw[Aq];omega)
   rw[List.drop_zero,bytesOf_take]at this
   rw[bL,bL,←this]
   obtain⟨g,hg⟩:=JY (e:=5) (f:=f) (xs:=bytesOf p)
   rw[hg]
   have e1:(64:Int)≤p.length:=by omega
   simp[KZ,Ea,CQ,Aq,e1]
  refine(AA sl _).trans ?_
  obtain⟨g,hg⟩:=Yf [Bh (List.replicate 32 0),A8 st] f.cut (p.take 64)
  have e:AB [Bh (List.replicate 32 0),A8 st] [A8 st,bL f.cut (p.take 64)]=[A8 st,bL g (p.take 64)]:=by
   simp only[AB,AHr,hg]
  rw[e]
  refine(AA (ALM hst bs (by rw[List.length_take];omega) g) _).trans ?_
  refine(AA (EM (w:=A8 st) rfl (ASx _) (ASy _ _)) _).trans ?_
  rw[Xx]
  have sl2:KZ P 117 (bL f p) (some (.int .i64 64)) none none=some (bL f.cut (p.drop 64)):=by
   have e1:(64:Int)≤p.length:=by omega
   simp[KZ,bL,Ea,CQ,Aq,e1,bytesOf_drop]
   rw[List.take_of_length_le (by rw[Aq];omega),bytesOf_drop]
  refine(AA sl2 _).trans ?_
  exact ih f.cut (p.drop 64) (Ub st (p.take 64)) (by rw[List.length_drop];omega) (by rw[List.length_drop];omega) (ML _ bs hst).1 (ML _ bs hst).2
theorem AS1 (N:Nat) (hN:N<2147483648):∀(n i:Nat) (p:List UInt8),i+n=8→(p.length+n)%64=0→p.length<2147483000→
 PL (.ref 0 [] 45) (bL .own p) (.int .u64 ((8*N:Nat):Int)) (.int .i64 (i:Int)) [Bh (List.replicate 32 0)]=
  some (Bh (Gv (blocks ((p++IV (8*N) n i).length/64) FI (p++IV (8*N) n i)) 32 0 (List.replicate 32 0)),[]):=by
 intro n
 induction n with
 |zero=>
  intro i p hi hp hl
  rw[Qh,WX,IC (by omega),BV,Xv,ALS]
  refine(AA EK _).trans ?_
  refine(AA (EM (w:=zero P 197) rfl (ASx _) (ASy _ _)) _).trans ?_
  simp only[IV,List.append_nil]
  exact AS0 (p.length/64) .own p FI (by omega) (by omega) ANX AHq
 |succ n ih=>
  intro i p hi hp hl
  rw[Qh,WX,Hl (by omega),BU,ACF,ACG]
  refine(Yd (a:=8) (by omega) _).trans<|(JX (a:=56) (by omega) (by omega) _).trans ?_
  refine(AA (Bv Ph ..) _).trans ?_
  rw[wrap_u64 (by omega) (by omega)]
  have hs:AL .shr (.int .u64 ((8*N:Nat):Int)) (.int .u64 ((56-8*i:Nat):Int))=some (.int .u64 ((8*N/2^(56-8*i):Nat):Int)):=by
   rw[UQ _ _ _ _ (by omega)]
   have:min (((56-8*i:Nat):Int)).toNat (IntKind.u64).bits=56-8*i:=by simp[IntKind.bits];omega
   rw[this,RQ]
  refine(AA hs _).trans ?_
  refine(AA (Bv Ob ..) _).trans ?_
  rw[JW]
  refine(app1 (Or.inl rfl) (by omega) _ (Nat.mod_lt _ (by decide)) _).trans ?_
  rw[Xu]
  refine(Gt (b:=1) (by omega) _).trans ?_
  have:=ih (i+1) (p++[lb (8*N) i]) (by omega) (by simp;omega) (by simp;omega)
  rw[List.append_assoc,List.singleton_append]at this
  exact this
theorem AS2 (N:Nat) (hN:N<2147483648):∀(n:Nat) (p:List UInt8),Nv p.length=n→p.length+n<2147482000→
 PK (.ref 0 [] 45) (bL .own p) (.int .u64 ((8*N:Nat):Int)) [Bh (List.replicate 32 0)]=
  some (Bh (Gv (blocks ((p++List.replicate n 0++IV (8*N) 8 0).length/64) FI (p++List.replicate n 0++IV (8*N) 8 0)) 32 0 (List.replicate 32 0)),[]):=by
 intro n
 induction n with
 |zero=>
  intro p hp hl
  rw[Qi,WW]
  refine Kz _ |>.trans ?_
  refine(AA (MH _ _ _ (by omega)) _).trans ?_
  rw[show(p.length:Int).tmod 64=((p.length%64:Nat):Int)by rfl]
  refine(AA (b_neq _ _ _) _).trans ?_
  simp only[Nv]at hp
  rw[decide_eq_false (by omega),BV,ACE,List.replicate_zero,List.append_nil]
  exact AS1 N hN 8 0 p rfl (by omega) (by omega)
 |succ n ih=>
  intro p hp hl
  rw[Qi,WW]
  refine Kz _ |>.trans ?_
  refine(AA (MH _ _ _ (by omega)) _).trans ?_
  rw[show(p.length:Int).tmod 64=((p.length%64:Nat):Int)by rfl]
  refine(AA (b_neq _ _ _) _).trans ?_
  simp only[Nv]at hp
  rw[decide_eq_true (by omega),BU,ACD]
  refine(app1 (Or.inl rfl) (by omega) 0 (by omega) _).trans ?_
  have:=ih (p++[0]) (by simp only[Nv,List.length_append,List.length_cons,List.length_nil];omega) (by simp;omega)
  rw[List.append_assoc p [0],List.singleton_append]at this
  exact this
theorem AAb (h:List V) (p:Fl×List UInt8):∃g,V.reify h (part p)=part (g,p.2):=Yf h p.1 p.2
theorem MN (h:List V):∀L:List (Fl×List UInt8),∃L',AB h (parts L)=parts L'∧flat L'=flat L∧L'.length=L.length
 |[]=>⟨[],rfl,rfl,rfl⟩
 |p::L=>by
  obtain⟨L',e1,e2,e3⟩:=MN h L
  obtain⟨g,hg⟩:=AAb h p
  refine⟨(g,p.2)::L',?_,?_,by simp[e3]⟩
  ·simp only[parts,List.map_cons,AB,hg];exact congrArg _ e1
  ·rw[La,La,e2]
theorem Oj (h:List V) (f:Fl) (L:List (Fl×List UInt8)):∃f' L',V.reify h (.lst 117 f (parts L))= .lst 117 f' (parts L')∧flat L'=flat L∧L'.length=L.length:=by
 obtain⟨L',e1,e2,e3⟩:=MN h L
 cases f
 case lent=>exact⟨.lent,L',by simp only[V.reify,e1],e2,e3⟩
 all_goals exact⟨.sh,L,rfl,rfl,rfl⟩
theorem Yg (L:List (Fl×List UInt8)) (hL:L.length<2147483648) (f:Fl) (hN:(flat L).length<2147480000) (h0:0<(flat L).length):
 Cl 114 [.lst 117 f (parts L)] []=some (Bh (Ye (flat L)),[]):=by
 obtain⟨f',L',e1,e2,e3⟩:=Oj [Bh (List.replicate 32 0)] f L
 have er:AB [Bh (List.replicate 32 0)] [.lst 117 f (parts L),.lst 5 .nil []]=[.lst 117 f' (parts L'),.lst 5 .sh []]:=by
  simp only[AB,e1];rfl
 rw[AKj,AB9,ACA,ALT]
 simp only[List.nil_append]
 rw[er]
 refine(AA (ALR .sh L' (by omega) f' (by rw[e2];omega) (by rw[e2];exact h0)) _).trans ?_
 rw[e2,ACB]
 refine Kz _ |>.trans ?_
 refine(AA (Bv Ef ..) _).trans ?_
 rw[wrap_u64 (by omega) (by omega)]
 refine(AA (RG _ _ _) _).trans ?_
 rw[wrap_u64 (by omega) (by omega),show((flat L).length:Int)*8=((8*(flat L).length:Nat):Int)by omega,ACC]
 refine(app1 (Or.inl rfl) (by omega) 128 (by omega) _).trans ?_
 have z:Nv ((flat L).length+1)<64:=Nat.mod_lt _ (by decide)
 exact AS2 (flat L).length (by omega) (Nv ((flat L).length+1)) (flat L++[128]) (by simp) (by simp;omega)
end
section
open Go AM
theorem Wu {a b i:Nat} (h:b<2^i):a*2^i|||b=a*2^i+b:=by
 have:=Nat.shiftLeft_add_eq_or_of_lt h a
 rw[Nat.shiftLeft_eq]at this;exact this.symm
theorem ALU {x n:Nat} (hx:x<4294967296) (h1:1≤n) (h2:n≤31):Eh x n=x/2^n+x%2^n*2^(32-n):=by
 have e:(4294967296:Nat)=2^n*2^(32-n):=by rw[←Nat.pow_add,show n+(32-n)=32 by omega]
 have hd:x/2^n<2^(32-n):=by
  rw[Nat.div_lt_iff_lt_mul (Nat.pow_pos (by decide)),Nat.mul_comm,←e];exact hx
 unfold Eh
 rw[show x*2^(32-n)%4294967296=x%2^n*2^(32-n)by rw[e,Nat.mul_mod_mul_right],Wu hd,Nat.add_comm]
theorem ALV {a b c d:Nat} (ha:a<256) (hb:b<256) (hc:c<256) (hd:d<256):
 ((a*2^24%4294967296|||b*2^16%4294967296)|||c*2^8%4294967296)|||d=a*16777216+b*65536+c*256+d:=by
 have e1:a*2^24%4294967296=a*2^24:=Nat.mod_eq_of_lt (by omega)
 have e2:b*2^16%4294967296=b*2^16:=Nat.mod_eq_of_lt (by omega)
 have e3:c*2^8%4294967296=c*2^8:=Nat.mod_eq_of_lt (by omega)
 rw[e1,e2,e3,Wu (by omega),show a*2^24+b*2^16=(a*256+b)*2^16 by omega,Wu (by omega),show(a*256+b)*2^16+c*2^8=(a*65536+b*256+c)*2^8 by omega,Wu (by omega)]
theorem AS3 {e f g:Nat} (he:e<4294967296) (hf:f<4294967296) (hg:g<4294967296):(e&&& f) ^^^ ((4294967295-e)&&& g)=g ^^^ (e&&& (f ^^^ g)):=by
 have hb:∀i,(4294967295-e).testBit i=(decide (i<32)&& !e.testBit i):=fun i=>by
  rw[←Nat.testBit_two_pow_sub_succ (n:=32) he i,show 4294967295-e=2^32-(e+1)by omega]
 apply Nat.eq_of_testBit_eq
 intro i
 simp only[Nat.testBit_xor,Nat.testBit_and,hb]
 by_cases hi:i<32
 ·simp only[hi,decide_true,Bool.true_and]
  cases e.testBit i<;>cases f.testBit i<;>cases g.testBit i<;>rfl
 ·have:g.testBit i=false:=Nat.testBit_lt_two_pow (Nat.lt_of_lt_of_le hg (Nat.pow_le_pow_right (n:=2) (i:=32) (by decide) (by omega)))
  have:f.testBit i=false:=Nat.testBit_lt_two_pow (Nat.lt_of_lt_of_le hf (Nat.pow_le_pow_right (n:=2) (i:=32) (by decide) (by omega)))
  simp[*]
theorem AS4 (a b c:Nat):((a&&& b) ^^^ (a&&& c)) ^^^ (b&&& c)=(a&&& b)|||(c&&& (a|||b)):=by
 apply Nat.eq_of_testBit_eq
 intro i
 simp only[Nat.testBit_xor,Nat.testBit_and,Nat.testBit_or]
 cases a.testBit i<;>cases b.testBit i<;>cases c.testBit i<;>rfl
theorem ad4 (a b c d:Nat):ad (ad (ad a b) c) d=(a+b+c+d)%4294967296:=by simp only[ad];omega
theorem ad5 (a b c d e:Nat):ad (ad (ad (ad a b) c) d) e=(a+b+c+d+e)%4294967296:=by simp only[ad];omega
theorem AVe (a b:Nat):ad (a%4294967296) b=(a+b)%4294967296:=by simp only[ad];omega
theorem AVf (a b:Nat):ad b (a%4294967296)=(b+a)%4294967296:=by simp only[ad];omega
def fv (w:List Nat) (t:Nat):Nat:=ad (ad (ad (w.getD (t-16) 0) (w.getD (t-7) 0)) (sg0 (w.getD (t-15) 0))) (sg1 (w.getD (t-2) 0))
def Yh (p:List UInt8):Nat→Nat→List Nat→List Nat
 |0,_,w=>w
 |n+1,t,w=>Yh p n (t+1) (w++[wordAt p t])
def Uh:Nat→Nat→List Nat→List Nat
 |0,_,w=>w
 |n+1,t,w=>Uh n (t+1) (w++[fv w t])
theorem LC {l:List Nat} {t x:Nat} (ht:t<l.length):(l.set t x).take (t+1)=l.take t++[x]:=by
 rw[List.take_add_one]
 simp[ht,List.take_set_of_le]
theorem Yi (p:List UInt8):∀(n t:Nat) (w:List Nat),t+n≤w.length→Yh p n t (w.take t)=(Kw p n t w).take (t+n)
 |0,_,_,_=>rfl
 |n+1,t,w,h=>by
  rw[Yh,Kw,←LC (by omega),Yi p n (t+1) (w.set t (wordAt p t)) (by simp;omega),show t+1+n=t+(n+1)by omega]
theorem getD_take {w:List Nat} {i t:Nat} (h:i<t):(w.take t).getD i 0=w.getD i 0:=by
 simp[List.getD_eq_getElem?_getD,List.getElem?_take,h]
theorem Yj:∀(n t:Nat) (w:List Nat),16≤t→t+n≤w.length→Uh n t (w.take t)=(Ky n t w).take (t+n)
 |0,_,_,_,_=>rfl
 |n+1,t,w,h16,h=>by
  have e:fv (w.take t) t=fv w t:=by simp only[fv];rw[getD_take (by omega),getD_take (by omega),getD_take (by omega),getD_take (by omega)]
  rw[Uh,ACy,e,←LC (by omega)]
  exact(Yj n (t+1) (w.set t (fv w t)) (by omega) (by simp;omega)).trans (by rw[show t+1+n=t+(n+1)by omega];rfl)
theorem APy (p:List UInt8):Uh 48 16 (Yh p 16 0 [])=Ky 48 16 (Kw p 16 0 (List.replicate 64 0)):=by
 have z32:B32 (List.replicate 64 0):=fun x hx=>by rw[List.eq_of_mem_replicate hx];decide
 have a:=YZ p 16 0 (List.replicate 64 0) z32 (by simp)
 have b:=Ya 48 16 _ a.1 a.2
 have h1:=Yi p 16 0 (List.replicate 64 0) (by simp)
 rw[List.take_zero]at h1
 rw[h1,Yj 48 16 _ (by omega) (by omega),List.take_of_length_le (by omega)]
end
section
open Go AM
def uw (n:Nat):V:= .int .u64 (n:Int)
def RV (l:List Nat):List V:=l.map uw
def uL (f:Fl) (l:List Nat):V:= .lst 75 f (RV l)
theorem Gw {B:Type} {a b:Nat} (h:a+b<18446744073709551616) (K:V→Option B):(AL .add (.int .u64 (a:Int)) (.int .u64 (b:Int))).bind K=K (.int .u64 ((a+b:Nat):Int)):=by
 rw[Bq,show(a:Int)+(b:Int)=((a+b:Nat):Int)by omega,wrap_u64 (by omega) (by omega)];rfl
theorem AS5 {B:Type} {a b:Nat} (h:b≤a) (ha:a<18446744073709551616) (K:V→Option B):(AL .sub (.int .u64 (a:Int)) (.int .u64 (b:Int))).bind K=K (.int .u64 ((a-b:Nat):Int)):=by
 rw[Ku,show(a:Int)-(b:Int)=((a-b:Nat):Int)by omega,wrap_u64 (by omega) (by omega)];rfl
theorem Yk {B:Type} {a b:Nat} (h:a*b<18446744073709551616) (K:V→Option B):(AL .mul (.int .u64 (a:Int)) (.int .u64 (b:Int))).bind K=K (.int .u64 ((a*b:Nat):Int)):=by
 rw[RG,←Int.natCast_mul,wrap_u64 (by omega) (by omega)];rfl
theorem RX {B:Type} {a b:Nat} (hb:0<b) (h:a<18446744073709551616) (K:V→Option B):(AL .quo (.int .u64 (a:Int)) (.int .u64 (b:Int))).bind K=K (.int .u64 ((a/b:Nat):Int)):=by
 have:a/b≤a:=Nat.div_le_self _ _
 rw[YS _ _ _ (by omega),show(a:Int).tdiv b=((a/b:Nat):Int)by rfl]
 generalize a/b=c at*
 rw[wrap_u64 (by omega) (by omega)];rfl
theorem Ui {B:Type} {a b:Nat} (hb:0<b) (K:V→Option B):(AL .rem (.int .u64 (a:Int)) (.int .u64 (b:Int))).bind K=K (.int .u64 ((a%b:Nat):Int)):=by
 rw[MH _ _ _ (by omega),show(a:Int).tmod b=((a%b:Nat):Int)by rfl];rfl
theorem AVg {B:Type} {k:IntKind} {a b:Int} (h:a=b) (K:V→Option B):(AL .eql (.int k a) (.int k b)).bind K=K (.bool true):=by
 rw[b_eql,Option.bind_some,decide_eq_true h]
theorem AVh {B:Type} {k:IntKind} {a b:Int} (h:¬a=b) (K:V→Option B):(AL .eql (.int k a) (.int k b)).bind K=K (.bool false):=by
 rw[b_eql,Option.bind_some,decide_eq_false h]
theorem AS6 {B:Type} {k:IntKind} {a b:Int} (h:a≠b) (K:V→Option B):(AL .neq (.int k a) (.int k b)).bind K=K (.bool true):=by
 rw[b_neq,Option.bind_some,decide_eq_true h]
theorem AS7 {B:Type} {k:IntKind} {a b:Int} (h:¬a≠b) (K:V→Option B):(AL .neq (.int k a) (.int k b)).bind K=K (.bool false):=by
 rw[b_neq,Option.bind_some,decide_eq_false h]
theorem APz {B:Type} {k:IntKind} {a b:Int} (h:b≤a) (K:V→Option B):(AL .geq (.int k a) (.int k b)).bind K=K (.bool true):=by
 rw[b_geq,Option.bind_some,decide_eq_true h]
theorem AP0 {B:Type} {k:IntKind} {a b:Int} (h:¬b≤a) (K:V→Option B):(AL .geq (.int k a) (.int k b)).bind K=K (.bool false):=by
 rw[b_geq,Option.bind_some,decide_eq_false h]
theorem Wv {l:List Nat} {i:Nat} (hi:i<l.length):(RV l)[i]?=some (uw (l.getD i 0)):=by
 simp[RV,List.getElem?_map,List.getElem?_eq_getElem hi]
theorem Py (l:List Nat):(RV l).length=l.length:=by simp[RV]
theorem ALW (a b:List Nat):RV (a++b)=RV a++RV b:=by simp[RV]
theorem Uj:∀l:List Nat,AU (RV l)=true
 |[]=>rfl
 |x::l=>by simp only[RV,List.map_cons,AU];rw[show List.map uw l=RV l from rfl,Uj l];rfl
theorem Uk (l:List Nat):Hq P 75 (RV l)=true:=by
 simp[Hq,RV,Bc,AHM,Bd,Ef,uw]
theorem AS8 (x:Nat):Bc P 75 (uw x)=true:=by simp[Bc,AHM,Bd,Ef,uw]
theorem TR {B:Type} {h:List V} {f:Fl} {l:List Nat} {i:Nat} (hi:i<l.length) (K:V→Option B):
 (AY P 181 (V.weak (uL f l)) (.int .i64 (i:Int))).bind (fun a=>(AX h 75 a).bind K)=K (.int .u64 (l.getD i 0:Int)):=by
 refine(AD4 Oc (Wv hi) _).trans ?_
 exact ldR _
theorem AHs (v:V) (f:Fl) (l:List Nat) (hv:v=uL f l):V.weak (V.weak v)=V.weak v:=by subst hv;cases f<;>rfl
theorem ANZ {B:Type} {f:Fl} {h:List V} {l:List Nat} (hf:f= .own∨f= .nil) (hl:l.length+1≤2147483648) (x:Nat) (K':V→Option B):
 (DR P 181 1 [(0,.int .u64 (x:Int))]).bind (fun y=>(EP P 181 h (uL f l) y).bind K')=K' (uL .own (l++[x])):=by
 refine(AA (AHm Oc (AS8 x) rfl UO ⟨_,rfl⟩) _).trans ?_
 refine(AA (AD5 Oc hf (y:=V.lst 75 .own [.int .u64 x]) rfl rfl (Uk [x]) (by rw[Py];exact hl) UO) _).trans ?_
 rw[uL,ALW];rfl
theorem AP1 (m:Nat) (hm:m≤63):∀(n i x:Nat),i+n=m→x=2^i→
 PS (.int .i64 (m:Int)) (.int .u64 (x:Int)) (.int .i64 (i:Int))=some (.int .u64 ((2^m:Nat):Int),[]):=by
 intro n
 induction n with
 |zero=>
  intro i x hi hx
  rw[Qj,WY,IC (by omega),BV,ACP,FH]
  subst hx;rw[show i=m by omega];rfl
 |succ n ih=>
  intro i x hi hx
  rw[Qj,WY,Hl (by omega),BU,ACN]
  have hp:2*x=2^(i+1):=by rw[hx,Nat.pow_succ,Nat.mul_comm]
  have:2^(i+1)≤2^63:=Nat.pow_le_pow_right (by decide) (by omega)
  refine(Yk (a:=2) (by rw[hp];omega) _).trans ?_
  rw[ACO]
  refine(Gt (b:=1) (by omega) _).trans ?_
  exact ih (i+1) (2*x) (by omega) hp
theorem AP2 {m:Nat} (hm:m≤63):Cl 117 [.int .i64 (m:Int)] []=some (.int .u64 ((2^m:Nat):Int),[]):=by
 rw[AKm,ACJ,ACK,ACM]
 exact AP1 m hm m 0 1 (by omega) rfl
theorem AC1 {B:Type} {h:List V} {m:Nat} (hm:m≤63) (K:V×List V→Option B):(Cl 117 (AB h [.int .i64 (m:Int)]) []).bind K=K (.int .u64 ((2^m:Nat):Int),[]):=
 AA (AP2 hm) K
theorem ALX {B:Type} {h:List V} {m:Nat} (K:V×List V→Option B):(Cl 119 (AB h [.int .u64 (m:Int)]) []).bind K=K (.int .u64 ((m%4294967296:Nat):Int),[]):=by
 refine AA ?_ K
 show Cl 119 [.int .u64 (m:Int)] []=_
 rw[AKp,ACR,ACS]
 exact Ui (b:=4294967296) (by decide) _
theorem AHt {x n:Nat} (hx:x<4294967296) (h1:1≤n) (h2:n≤31):Cl 120 [.int .u64 (x:Int),.int .i64 (n:Int)] []=some (.int .u64 (Eh x n:Int),[]):=by
 rw[AKq,ACT,ACU]
 have p0:0<2^n:=Nat.pow_pos (by decide)
 have e:(4294967296:Nat)=2^n*2^(32-n):=by rw[←Nat.pow_add,show n+(32-n)=32 by omega]
 have hr:=Au (n:=n) hx
 rw[ALU hx h1 h2]at hr⊢
 refine(AC1 (by omega) _).trans<|(RX p0 (by omega) _).trans<|(AC1 (by omega) _).trans<|(Ui p0 _).trans ?_
 have hr':x/2^n+x%2^n*2^(32-n)<18446744073709551616:=Nat.lt_trans hr (by decide)
 refine(JX (a:=32) (by omega) (by omega) _).trans<|(AC1 (by omega) _).trans<|(Yk (Nat.lt_of_le_of_lt (Nat.le_add_left _ _) hr') _).trans<|(Gw hr' _).trans ?_
 rfl
theorem IE {B:Type} {h:List V} {x:Nat} (hx:x<4294967296) (n:Nat) (h1:1≤n) (h2:n≤31) (K:V×List V→Option B):
 (Cl 120 (AB h [.int .u64 (x:Int),.int .i64 (n:Int)]) []).bind K=K (.int .u64 (Eh x n:Int),[]):=AA (AHt hx h1 h2) K
theorem AD7:Cl 118 [] []=some (uL .sh CJ,[]):=by
 rw[AKo,ACQ]
 kernel_rfl
end
section
open Go AM
theorem AAc {a:Nat} (h:a<4294967296):a<18446744073709551616:=Nat.lt_trans h (by decide)
theorem JZ {B:Type} {a b:Nat} (ha:a<4294967296) (hb:b<4294967296) (K:V→Option B):(AL .xor (.int .u64 (a:Int)) (.int .u64 (b:Int))).bind K=K (.int .u64 ((a ^^^ b:Nat):Int)):=
 AA (u64_xor (AAc ha) (AAc hb)) K
theorem Yl {B:Type} {a b:Nat} (ha:a<4294967296) (hb:b<4294967296) (K:V→Option B):(AL .and (.int .u64 (a:Int)) (.int .u64 (b:Int))).bind K=K (.int .u64 ((a&&& b:Nat):Int)):=
 AA (u64_and (AAc ha) (AAc hb)) K
def box (st:List Nat):List V:=[.row 75 (RV st)]
def IG:V:= .win 0 [] 0 8 75
theorem ANa {i:Nat} (hi:i<8):AY P 181 (V.weak IG) (.int .i64 (i:Int))=some (.ref 0 [i] 75):=by
 have:inside (i:Int) 8=true:=by simp[inside];omega
 simp[AY,IG,V.weak,Oc,this]
theorem Ym {B:Type} {st:List Nat} (hs:st.length=8) {i:Nat} (hi:i<8) (K:V→Option B):
 (AY P 181 (V.weak IG) (.int .i64 (i:Int))).bind (fun a=>(AX (box st) 75 a).bind K)=K (.int .u64 (st.getD i 0:Int)):=by
 refine(AA (ANa hi) _).trans ?_
 exact AA (CG (APa (u:=75) (fs:=RV st) rfl (Wv (by omega)))) _
theorem AS9 {st:List Nat} (hs:st.length=8) {i x:Nat} (hi:i<8):FW P (box st) 75 (.ref 0 [i] 75) (.int .u64 (x:Int))=some (box (st.set i x)):=by
 have:=AK2 (P:=P) (h:=box st) (t:=75) (u:=75) (id:=0) (i:=i) (fs:=RV st) (v:=uw x) (x:=uw (st.getD i 0)) rfl (Wv (by omega)) (AS8 x) rfl
 refine this.trans ?_
 simp[box,RV,List.map_set]
theorem sl4 {p:List UInt8} {a j:Nat} (hp:a+4≤p.length) (hj:j<4):(bytesOf ((p.take (a+4)).drop a))[j]?=some (.int .u8 ((p.getD (a+j) 0).toNat:Int)):=by
 rw[←bytesOf_drop,←bytesOf_take,List.getElem?_drop,List.getElem?_take_of_lt (by omega),Ns (by omega)]
theorem atB {B:Type} {h:List V} {f:Fl} {l:List UInt8} {i x:Nat} (hi:(bytesOf l)[i]?=some (.int .u8 (x:Int))) (K:V→Option B):
 (AY P 117 (V.weak (bL f l)) (.int .i64 (i:Int))).bind (fun a=>(AX h 5 a).bind K)=K (.int .u8 (x:Int)):=by
 refine(AD4 Ea hi _).trans ?_
 exact ldR _
theorem cvU {B:Type} {h:List V} {x:Nat} (hx:x<256) (K:V→Option B):(conv P h 5 75 (.int .u8 (x:Int))).bind K=K (.int .u64 (x:Int)):=by
 refine(AA (Bv Ef ..) _).trans ?_
 rw[wrap_u64 (by omega) (by omega)]
theorem ALY {h:List V} {f g:Fl} {p:List UInt8} {w:List Nat} {a:Nat} (hp:a+4≤p.length) (hw:w.length<100) (hf:f= .own∨f= .nil) (K:V→Option (V×List V)):
 WB (uL f w) (bL g ((p.take (a+4)).drop a)) h K=
  K (uL .own (w++[(p.getD a 0).toNat*16777216+(p.getD (a+1) 0).toNat*65536+(p.getD (a+2) 0).toNat*256+(p.getD (a+3) 0).toNat])):=by
 have b:∀j,(p.getD j 0).toNat<256:=fun j=>UInt8.toNat_lt _
 have b0:=b (a+0);have b1:=b (a+1);have b2:=b (a+2);have b3:=b (a+3)
 unfold WB
 refine(atB (i:=0) (sl4 hp (by omega)) _).trans<|(cvU (b _) _).trans<|(Yk (b:=16777216) (by omega) _).trans ?_
 refine(atB (i:=1) (sl4 hp (by omega)) _).trans<|(cvU (b _) _).trans<|(Yk (b:=65536) (by omega) _).trans<|(Gw (by omega) _).trans ?_
 refine(atB (i:=2) (sl4 hp (by omega)) _).trans<|(cvU (b _) _).trans<|(Yk (b:=256) (by omega) _).trans<|(Gw (by omega) _).trans ?_
 refine(atB (i:=3) (sl4 hp (by omega)) _).trans<|(cvU (b _) _).trans<|(Gw (by omega) _).trans ?_
 exact ANZ hf (by omega) _ _
theorem ALZ {h:List V} {f:Fl} {w:List Nat} {t:Nat} (h16:16≤t) (ht:t<64) (hw:w.length=t) (K:V→V→Option (V×List V)):
 WC (uL f w) (.int .i64 (t:Int)) h K=K (uw (w.getD (t-15) 0)) (uw (w.getD (t-2) 0)):=by
 unfold WC
 refine(JX (b:=15) (by omega) (by omega) _).trans<|(TR (by omega) _).trans ?_
 exact(JX (b:=2) (by omega) (by omega) _).trans<|(TR (by omega) _)
theorem AP3 {x:Nat} (hx:x<4294967296):sg0 x<4294967296:=EC (EC (Au hx) (Au hx)) (KA _ hx)
theorem AP4 {x:Nat} (hx:x<4294967296):sg1 x<4294967296:=EC (EC (Au hx) (Au hx)) (KA _ hx)
theorem ALa {h:List V} {f:Fl} {w:List Nat} {t:Nat} (h16:16≤t) (ht:t<64) (hw:w.length=t) (bw:B32 w) (hf:f= .own∨f= .nil) (K:V→Option (V×List V)):
 WE (uL f w) (.int .i64 (t:Int)) (uw (w.getD (t-15) 0)) (uw (w.getD (t-2) 0)) h K=K (uL .own (w++[fv w t])):=by
 have a1:=bw.get (t-16);have a2:=bw.get (t-7);have a3:=bw.get (t-15);have a4:=bw.get (t-2)
 have s0:=AP3 a3;have s1:=AP4 a4
 unfold WE
 rw[AHs _ f w rfl]
 refine(JX (b:=16) (by omega) (by omega) _).trans<|(TR (by omega) _).trans ?_
 refine(JX (b:=7) (by omega) (by omega) _).trans<|(TR (by omega) _).trans ?_
 refine(Gw (by omega) _).trans ?_
 refine(IE a3 7 (by omega) (by omega) _).trans<|(IE a3 18 (by omega) (by omega) _).trans<|(JZ (Au a3) (Au a3) _).trans ?_
 refine(RX (b:=8) (by omega) (AAc a3) _).trans ?_
 refine(JZ (EC (Au a3) (Au a3)) (KA 8 a3) _).trans ?_
 refine(Gw (show _+sg0 (w.getD (t-15) 0)<_ by omega) _).trans ?_
 refine(IE a4 17 (by omega) (by omega) _).trans<|(IE a4 19 (by omega) (by omega) _).trans<|(JZ (Au a4) (Au a4) _).trans ?_
 refine(RX (b:=1024) (by omega) (AAc a4) _).trans ?_
 refine(JZ (EC (Au a4) (Au a4)) (KA 1024 a4) _).trans ?_
 refine(Gw (show _+sg0 (w.getD (t-15) 0)+sg1 (w.getD (t-2) 0)<_ by omega) _).trans ?_
 refine(ALX _).trans ?_
 rw[fv,ad4]
 exact ANZ hf (by omega) _ _
theorem ALb {h:List V} {f:Fl} {v:List Nat} (hv:v.length=8) (K:V→V→Option (V×List V)):
 WL (uL f v) h K=K (uw (v.getD 0 0)) (uw (v.getD 4 0)):=by
 unfold WL
 exact(TR (i:=0) (by omega) _).trans<|(TR (i:=4) (by omega) _)
theorem ALc {h:List V} {f:Fl} {v:List Nat} (hv:v.length=8) (bv:B32 v) (K:V→Option (V×List V)):
 WM (uL f v) (uw (v.getD 4 0)) h K=K (uw (v.getD 6 0 ^^^ (v.getD 4 0&&& (v.getD 5 0 ^^^ v.getD 6 0)))):=by
 have be:=bv.get 4;have bf:=bv.get 5;have bg:=bv.get 6
 unfold WM
 refine(TR (i:=5) (by omega) _).trans<|(Yl be bf _).trans<|(AS5 (a:=4294967295) (by omega) (by omega) _).trans ?_
 refine(TR (i:=6) (by omega) _).trans<|(Yl (by omega) bg _).trans<|(JZ (EW be) (EW (by omega)) _).trans ?_
 rw[AS3 be bf bg];rfl
theorem ALd {h:List V} {f:Fl} {v:List Nat} (hv:v.length=8) (bv:B32 v) (K:V→Option (V×List V)):
 WN (uL f v) (uw (v.getD 0 0)) h K=K (uw ((v.getD 0 0&&& v.getD 1 0)|||(v.getD 2 0&&& (v.getD 0 0|||v.getD 1 0)))):=by
 have ba:=bv.get 0;have bb:=bv.get 1;have bc:=bv.get 2
 unfold WN
 refine(TR (i:=1) (by omega) _).trans<|(Yl ba bb _).trans ?_
 refine(TR (i:=2) (by omega) _).trans<|(Yl ba bc _).trans<|(JZ (EW ba) (EW ba) _).trans ?_
 refine(TR (i:=1) (by omega) _).trans<|(TR (i:=2) (by omega) _).trans<|(Yl bb bc _).trans<|(JZ (EC (EW ba) (EW ba)) (EW bb) _).trans ?_
 rw[AS4];rfl
def s1E (e:Nat):Nat:=(Eh e 6 ^^^ Eh e 11) ^^^ Eh e 25
def s0A (a:Nat):Nat:=(Eh a 2 ^^^ Eh a 13) ^^^ Eh a 22
theorem AHu {e:Nat} (h:e<4294967296):s1E e<4294967296:=EC (EC (Au h) (Au h)) (Au h)
theorem AHv {e:Nat} (h:e<4294967296):s0A e<4294967296:=EC (EC (Au h) (Au h)) (Au h)
theorem ALf {h:List V} {f g k:Fl} {v w:List Nat} {c t:Nat} (hv:v.length=8) (bv:B32 v) (hw:w.length=64) (bw:B32 w) (ht:t<64) (hc:c<4294967296) (K:V→Option (V×List V)):
 WO (uL k CJ) (uL g w) (uL f v) (.int .i64 (t:Int)) (uw (v.getD 4 0)) (uw c) h K=K (uw (v.getD 7 0+s1E (v.getD 4 0)+c+CJ.getD t 0+w.getD t 0)):=by
 have be:=bv.get 4;have b7:=bv.get 7;have bk:=ANW.get t;have bt:=bw.get t
 have s:=AHu be
 unfold WO
 refine(TR (i:=7) (by omega) _).trans<|(IE be 6 (by omega) (by omega) _).trans<|(IE be 11 (by omega) (by omega) _).trans<|(JZ (Au be) (Au be) _).trans ?_
 refine(IE be 25 (by omega) (by omega) _).trans<|(JZ (EC (Au be) (Au be)) (Au be) _).trans ?_
 refine(Gw (show _+s1E (v.getD 4 0)<_ by omega) _).trans<|(Gw (show _+s1E (v.getD 4 0)+c<_ by omega) _).trans ?_
 refine(TR (by rw[ANV];exact ht) _).trans<|(Gw (show _+s1E (v.getD 4 0)+c+_<_ by omega) _).trans ?_
 exact(TR (by omega) _).trans<|(Gw (show _+s1E (v.getD 4 0)+c+_+_<_ by omega) _)
theorem ALg {h:List V} {a c:Nat} (ba:a<4294967296) (hc:c<4294967296) (K:V→Option (V×List V)):
 WQ (uw a) (uw c) h K=K (uw (s0A a+c)):=by
 have s:=AHv ba
 unfold WQ
 refine(IE ba 2 (by omega) (by omega) _).trans<|(IE ba 13 (by omega) (by omega) _).trans<|(JZ (Au ba) (Au ba) _).trans ?_
 refine(IE ba 22 (by omega) (by omega) _).trans<|(JZ (EC (Au ba) (Au ba)) (Au ba) _).trans ?_
 exact(Gw (show s0A a+c<_ by omega) _)
theorem ANb (z0 z1 z2 z3 z4 z5 z6 z7:Nat):DR P 181 8 [(0,.int .u64 (z0:Int)),(1,.int .u64 (z1:Int)),(2,.int .u64 (z2:Int)),(3,.int .u64 (z3:Int)),(4,.int .u64 (z4:Int)),(5,.int .u64 (z5:Int)),(6,.int .u64 (z6:Int)),(7,.int .u64 (z7:Int))]=some (uL .own [z0,z1,z2,z3,z4,z5,z6,z7]):=by
 simp[DR,Oc,CY,Bc,AHM,Bd,Ef,cp,UO,uL,RV,uw,List.replicate,AU,V.clean,D8]
theorem ALh {h:List V} {f:Fl} {v:List Nat} {a e x y:Nat} (hv:v.length=8) (bv:B32 v) (hx:x<4294967296*8) (hy:y<4294967296*8) (K:V→Option (V×List V)):
 WR (uL f v) (uw a) (uw e) (uw x) (uw y) h K=
  K (uL .own [(x+y)%4294967296,a,v.getD 1 0,v.getD 2 0,(v.getD 3 0+x)%4294967296,e,v.getD 5 0,v.getD 6 0]):=by
 have b3:=bv.get 3
 unfold WR
 refine(Gw (by omega) _).trans<|(ALX _).trans<|(TR (i:=1) (by omega) _).trans<|(TR (i:=2) (by omega) _).trans<|(TR (i:=3) (by omega) _).trans ?_
 refine(Gw (by omega) _).trans<|(ALX _).trans<|(TR (i:=5) (by omega) _).trans<|(TR (i:=6) (by omega) _).trans ?_
 exact AA (ANb _ _ _ _ _ _ _ _) _
theorem AP5 (e f g h k w:Nat):chE e f g h k w=(h+s1E e+(g ^^^ (e&&& (f ^^^ g)))+k+w)%4294967296:=ad5 ..
theorem AP6 (a b c:Nat):mjA a b c=(s0A a+((a&&& b)|||(c&&& (a|||b))))%4294967296:=rfl
theorem ALi {k w v:List Nat} {t:Nat}:
 [(v.getD 7 0+s1E (v.getD 4 0)+(v.getD 6 0 ^^^ (v.getD 4 0&&& (v.getD 5 0 ^^^ v.getD 6 0)))+k.getD t 0+w.getD t 0+(s0A (v.getD 0 0)+((v.getD 0 0&&& v.getD 1 0)|||(v.getD 2 0&&& (v.getD 0 0|||v.getD 1 0)))))%4294967296,
   v.getD 0 0,v.getD 1 0,v.getD 2 0,
   (v.getD 3 0+(v.getD 7 0+s1E (v.getD 4 0)+(v.getD 6 0 ^^^ (v.getD 4 0&&& (v.getD 5 0 ^^^ v.getD 6 0)))+k.getD t 0+w.getD t 0))%4294967296,
   v.getD 4 0,v.getD 5 0,v.getD 6 0]=rnd k w t v:=by
 rw[AHh,AP5,AP6,AVe,AVf,Nat.add_mod_mod]
end
section
open Go AM
theorem AD8 (p:List UInt8) (o t:Nat) (ho:o+4*t+4≤p.length) (ht:t<16):
 (p.getD (o+4*t) 0).toNat*16777216+(p.getD (o+4*t+1) 0).toNat*65536+(p.getD (o+4*t+2) 0).toNat*256+(p.getD (o+4*t+3) 0).toNat=wordAt ((p.drop o).take 64) t:=by
 have e:∀j,j<64→((p.drop o).take 64).getD j 0=p.getD (o+j) 0:=by
  intro j hj
  simp[List.getD_eq_getElem?_getD,List.getElem?_take,List.getElem?_drop,hj]
 have b:∀j,(p.getD j 0).toNat<256:=fun j=>UInt8.toNat_lt _
 rw[wordAt,e _ (by omega),e _ (by omega),e _ (by omega),e _ (by omega),ALV (b _) (b _) (b _) (b _)]
 simp only[Nat.add_assoc]
theorem ALj (p:List UInt8) (t6:V) (o:Nat) (m4:Nat) (v:List Nat) (f:Fl) (hv:v.length=8) (bv:B32 v) (N:V×List V→Prop) (R:Option (V×List V))
 (k:∀st:List Nat,st.length=8→B32 st→IA (bL .own p) t6 IG (.int .i64 ((o+64:Nat):Int)) (box st)=IA (bL .own p) t6 IG (.int .i64 ((o+64:Nat):Int)) (box st)) (ho:o<2^40):
 ∀(n i:Nat) (st:List Nat),i+n=8→st.length=8→B32 st→
 PE (bL .own p) t6 IG (.int .i64 (o:Int)) (uL f v) (.int .i64 (i:Int)) m4 (box st)=
  IA (bL .own p) t6 IG (.int .i64 ((o+64:Nat):Int)) (box (Nu v n i st)):=by
 intro n
 induction n with
 |zero=>
  intro i st hi hs bs
  rw[QY,WS,IC (by omega),BV,ABr]
  refine(Gt (b:=64) (by omega) _).trans ?_
  rfl
 |succ n ih=>
  intro i st hi hs bs
  rw[QY,WS,Hl (by omega),BU,ABp]
  have b1:=bs.get i;have b2:=bv.get i
  refine(Ym hs (by omega) _).trans<|(TR (by omega) _).trans<|(Gw (by omega) _).trans<|(ALX _).trans ?_
  refine(AA (ANa (by omega)) _).trans<|(AA (AS9 hs (by omega)) _).trans ?_
  rw[ABq]
  refine(Gt (b:=1) (by omega) _).trans ?_
  exact ih (i+1) _ (by omega) (by simp[hs]) (bs.set i (Ua _ _))
theorem AP7 (p:List UInt8) (o m4:Nat) (ho:o<2^40) (w st:List Nat) (g kf:Fl) (hw:w.length=64) (bw:B32 w) (hs:st.length=8) (bs:B32 st):
 ∀(n t:Nat) (v:List Nat) (f:Fl),t+n=64→v.length=8→B32 v→
 WI (bL .own p) (uL kf CJ) IG (.int .i64 (o:Int)) (uL g w) (uL f v) (.int .i64 (t:Int)) m4 (box st)=
  IA (bL .own p) (uL kf CJ) IG (.int .i64 ((o+64:Nat):Int)) (box (Nu (RS CJ w n t v) 8 0 st)):=by
 intro n
 induction n with
 |zero=>
  intro t v f ht hv bv
  rw[UK,WJ,IC (by omega),BV,ABo]
  exact ALj p _ o m4 v f hv bv (fun _=>True) none (fun _ _ _=>rfl) ho 8 0 st rfl hs bs
 |succ n ih=>
  intro t v f ht hv bv
  have c1:(v.getD 6 0 ^^^ (v.getD 4 0&&& (v.getD 5 0 ^^^ v.getD 6 0)))<4294967296:=EC (bv.get 6) (EW (bv.get 4))
  have c2:((v.getD 0 0&&& v.getD 1 0)|||(v.getD 2 0&&& (v.getD 0 0|||v.getD 1 0)))<4294967296:=AHc (EW (bv.get 0)) (EW (bv.get 2))
  have s1:=AHu (bv.get 4);have s0:=AHv (bv.get 0);have b7:=bv.get 7;have bk:=ANW.get t;have bt:=bw.get t
  rw[UK,WJ,Hl (by omega),BU,ALb hv,ALc hv bv,ALd hv bv,ALf hv bv hw bw (by omega) c1,ALg (bv.get 0) c2,
   ALh hv bv (by omega) (by omega),ALi,ABn,AHi]
  refine(Gt (b:=1) (by omega) _).trans ?_
  exact ih (t+1) _ .own (by omega) rfl (AAY bv t).1
theorem ATB (w:List Nat) (t:Nat):fv w t<4294967296:=Ua _ _
theorem ALk (f:Fl) {st:List Nat} (hs:st.length=8) (K:V→Option (V×List V)):WH IG (box st) K=K (uL .own st):=by
 unfold WH
 refine(AA (show DR P 181 0 []=some (uL .own [])by simp[DR,Oc,CY,uL,RV,AU,D8,UO]) _).trans ?_
 have c:Ai (box st) (V.weak IG)=some (RV st):=by
  simp[Ai,IG,V.weak,box,rd,V.at,V.items]
  rw[List.take_of_length_le (by rw[Py];omega)]
 exact AA (AD5 Oc (Or.inl rfl) c (Uj _) (Uk _) (by rw[Py];simp[RV];omega) UO) _
theorem ALl (p:List UInt8) (o m4:Nat) (ho:o<2^40) (st:List Nat) (kf:Fl) (hs:st.length=8) (bs:B32 st):
 ∀(n t:Nat) (w:List Nat),t+n=64→16≤t→w.length=t→B32 w→
 Nj (bL .own p) (uL kf CJ) IG (.int .i64 (o:Int)) (uL .own w) (.int .i64 (t:Int)) m4 (box st)=
  IA (bL .own p) (uL kf CJ) IG (.int .i64 ((o+64:Nat):Int)) (box (Nu (RS CJ (Uh n t w) 64 0 st) 8 0 st)):=by
 intro n
 induction n with
 |zero=>
  intro t w ht h16 hw bw
  rw[Nk,O9,IC (by omega),BV,ALk .own hs,ABm]
  exact AP7 p o m4 ho w st .own kf (by omega) bw hs bs 64 0 st .own rfl hs bs
 |succ n ih=>
  intro t w ht h16 hw bw
  rw[Nk,O9,Hl (by omega),BU,WA,IC (by omega),BV,
   ALZ h16 (by omega) hw,ALa h16 (by omega) hw bw (Or.inl rfl),PD]
  refine(Gt (b:=1) (by omega) _).trans ?_
  refine ih (t+1) (w++[fv w t]) (by omega) (by omega) (by simp[hw]) ?_
  intro x hx;rcases List.mem_append.1 hx with hx|hx
  ·exact bw x hx
  ·rw[List.mem_singleton.1 hx];exact ATB _ _
theorem AP8 (p:List UInt8) (o m4:Nat) (ho:o<2^40) (hp:o+64≤p.length) (st:List Nat) (kf:Fl) (hs:st.length=8) (bs:B32 st):
 ∀(n t:Nat) (w:List Nat),t+n=16→w.length=t→B32 w→
 Nj (bL .own p) (uL kf CJ) IG (.int .i64 (o:Int)) (uL .own w) (.int .i64 (t:Int)) m4 (box st)=
  IA (bL .own p) (uL kf CJ) IG (.int .i64 ((o+64:Nat):Int)) (box (Nu (RS CJ (Uh 48 16 (Yh ((p.drop o).take 64) n t w)) 64 0 st) 8 0 st)):=by
 intro n
 induction n with
 |zero=>
  intro t w ht hw bw
  rw[show t=16 by omega]at*
  exact ALl p o m4 ho st kf hs bs 48 16 w rfl (by omega) hw bw
 |succ n ih=>
  intro t w ht hw bw
  rw[Nk,O9,Hl (by omega),BU,WA,Hl (by omega),BU,ABl]
  refine(Yd (a:=4) (by omega) _).trans<|(Gt (by omega) _).trans<|(Yd (a:=4) (by omega) _).trans<|(Gt (by omega) _).trans<|(Gt (b:=4) (by omega) _).trans ?_
  refine(AA (APv (f:= .own) (t:=5) (xs:=bytesOf p) Ea (a:=o+4*t) (b:=o+4*t+4) (by omega) (by rw[Aq];omega)) _).trans ?_
  rw[bytesOf_take,bytesOf_drop]
  refine(ALY (g:=Fl.cut .own) (by omega) (by omega) (Or.inl rfl) _).trans ?_
  rw[PD]
  refine(Gt (b:=1) (by omega) _).trans ?_
  rw[AD8 p o t (by omega) (by omega)]
  refine ih (t+1) _ (by omega) (by simp[hw]) ?_
  intro x hx;rcases List.mem_append.1 hx with hx|hx
  ·exact bw x hx
  ·rw[List.mem_singleton.1 hx];exact Nr _ _
end
section
open Go AM
def Lc (st:List Nat):Nat→Nat→List UInt8
 |0,_=>[]
 |n+1,i=>[dg st (4*i),dg st (4*i+1),dg st (4*i+2),dg st (4*i+3)]++Lc st n (i+1)
def AHw (st:List Nat):Nat→Nat→List UInt8
 |0,_=>[]
 |n+1,i=>dg st i::AHw st n (i+1)
theorem AHx {l:List UInt8} {t:Nat} {x:UInt8} (ht:t<l.length):(l.set t x).take (t+1)=l.take t++[x]:=by
 rw[List.take_add_one]
 simp[ht,List.take_set_of_le]
theorem RY (st:List Nat):∀(n i:Nat) (w:List UInt8),i+n=w.length→Gv st n i w=w.take i++AHw st n i
 |0,i,w,h=>by rw[Gv,AHw,List.append_nil,List.take_of_length_le (by omega)]
 |n+1,i,w,h=>by
  rw[Gv,RY st n (i+1) (w.set i (dg st i)) (by simp;omega),AHx (by omega),AHw,List.append_assoc,List.singleton_append]
theorem RZ (st:List Nat):∀n i,AHw st (4*n) (4*i)=Lc st n i
 |0,_=>rfl
 |n+1,i=>by
  have:=RZ st n (i+1)
  rw[Lc,←this];rfl
theorem Yn (st:List Nat):Gv st 32 0 (List.replicate 32 0)=Lc st 8 0:=by
 rw[RY st 32 0 _ (by simp),List.take_zero,List.nil_append];exact RZ st 8 0
theorem AC2 (st:List Nat) (i j:Nat) (hj:j<4):dg st (4*i+j)=UInt8.ofNat (st.getD i 0/2^(24-8*j)%256):=by
 rw[dg,show(4*i+j)/4=i by omega,show(4*i+j)%4=j by omega]
theorem Rf (l:List UInt8):Fg (bytesOf l)=some l:=by
 induction l with
 |nil=>rfl
 |cons x l ih=>
  have:bytesOf (x::l)= .int .u8 (x.toNat:Int)::bytesOf l:=rfl
  rw[this]
  simp only[Fg,AM.byteOf,ih]
  simp
theorem ATC (a b c d:Nat) (ha:a<256) (hb:b<256) (hc:c<256) (hd:d<256):DR P 117 4 [(0,.int .u8 (a:Int)),(1,.int .u8 (b:Int)),(2,.int .u8 (c:Int)),(3,.int .u8 (d:Int))]=some (bL .own [UInt8.ofNat a,UInt8.ofNat b,UInt8.ofNat c,UInt8.ofNat d]):=by
 simp[DR,Ea,CY,Pv,cp,YR,List.replicate,AU,V.clean,D8,bL,bytesOf,Nat.mod_eq_of_lt ha,Nat.mod_eq_of_lt hb,Nat.mod_eq_of_lt hc,Nat.mod_eq_of_lt hd]
theorem cv8 {B:Type} {h:List V} {x:Nat} (K:V→Option B):(conv P h 75 5 (.int .u64 (x:Int))).bind K=K (.int .u8 ((x%256:Nat):Int)):=by
 refine(AA (Bv Ob ..) _).trans ?_
 rw[JW]
theorem ALm {st:List Nat} (hs:st.length=8) (bs:B32 st) {l:List UInt8} {f:Fl} {i:Nat} (hi:i<8) (hl:l.length<1000) (K:V→Option (V×List V)):
 WU IG (bL .own l) (.int .i64 (i:Int)) (box st) K=K (bL .own (l++[dg st (4*i),dg st (4*i+1),dg st (4*i+2),dg st (4*i+3)])):=by
 have b:=AAc (bs.get i)
 have m:∀x,x%256<256:=fun x=>Nat.mod_lt _ (by decide)
 unfold WU
 refine(Ym hs hi _).trans<|(RX (b:=16777216) (by decide) b _).trans<|(cv8 _).trans ?_
 refine(Ym hs hi _).trans<|(RX (b:=65536) (by decide) b _).trans<|(Ui (b:=256) (by decide) _).trans<|(cv8 _).trans ?_
 refine(Ym hs hi _).trans<|(RX (b:=256) (by decide) b _).trans<|(Ui (b:=256) (by decide) _).trans<|(cv8 _).trans ?_
 refine(Ym hs hi _).trans<|(Ui (b:=256) (by decide) _).trans<|(cv8 _).trans ?_
 refine(AA (ATC _ _ _ _ (m _) (m _) (m _) (m _)) _).trans ?_
 refine(AA (APw (Or.inl rfl) (by simp;omega)) _).trans ?_
 rw[show dg st (4*i)=dg st (4*i+0)from rfl,AC2 _ _ 0 (by omega),AC2 _ _ 1 (by omega),AC2 _ _ 2 (by omega),AC2 _ _ 3 (by omega)]
 simp only[Nat.mod_mod]
 rw[show(2^(24-8*3):Nat)=1 from rfl,Nat.div_one]
theorem ALn {st:List Nat} (hs:st.length=8) (bs:B32 st):∀(n i:Nat) (l:List UInt8),i+n=8→l.length=4*i→
 PG IG (bL .own l) (.int .i64 (i:Int)) (box st)=some (.str (l++Lc st n i),[]):=by
 intro n
 induction n with
 |zero=>
  intro i l hi hl
  rw[QZ,WT,IC (by omega),BV,ABv]
  refine(AA (show conv P (box st) 117 9 (bL .own l)=some (.str l)by simp[conv,Gj,J5,Ob,bL,Ai,Rf]) _).trans ?_
  rw[MJ,Lc,List.append_nil];rfl
 |succ n ih=>
  intro i l hi hl
  rw[QZ,WT,Hl (by omega),BU,ALm (f:= .own) hs bs (by omega) (by omega),ABu,Lc,←List.append_assoc]
  refine(Gt (b:=1) (by omega) _).trans ?_
  exact ih (i+1) _ (by omega) (by simp;omega)
theorem AQA (p:List UInt8) (kf:Fl) (hp:p.length<2^32):∀(n o:Nat) (st:List Nat),o+64*n=p.length→st.length=8→B32 st→
 IA (bL .own p) (uL kf CJ) IG (.int .i64 (o:Int)) (box st)=some (.str (Gv (blocks n st (p.drop o)) 32 0 (List.replicate 32 0)),[]):=by
 intro n
 induction n with
 |zero=>
  intro o st ho hs bs
  rw[UL,V9]
  refine Kz _ |>.trans ?_
  refine(IC (by omega) _).trans ?_
  rw[BV,ABs]
  refine(AA (show DR P 117 0 []=some (bL .own [])by simp[DR,Ea,CY,bL,bytesOf,AU,D8,YR]) _).trans ?_
  rw[ABt,Yn]
  exact ALn hs bs 8 0 [] rfl rfl
 |succ n ih=>
  intro o st ho hs bs
  rw[UL,V9]
  refine Kz _ |>.trans ?_
  refine(Hl (by omega) _).trans ?_
  rw[BU,ABj]
  refine(AA (show DR P 181 0 []=some (uL .own [])by simp[DR,Oc,CY,uL,RV,AU,D8,UO]) _).trans ?_
  rw[ABk]
  refine(AP8 p o _ (by omega) (by omega) st kf hs bs 16 0 [] rfl rfl (by intro x hx;cases hx)).trans ?_
  rw[APy]
  have:=ih (o+64) (Ub st ((p.drop o).take 64)) (by omega) (ML _ bs hs).2 (ML _ bs hs).1
  refine this.trans ?_
  rw[blocks,List.drop_drop]
theorem AD9:DR P 181 8 [(0,.int .u64 1779033703),(1,.int .u64 3144134277),(2,.int .u64 1013904242),(3,.int .u64 2773480762),(4,.int .u64 1359893119),(5,.int .u64 2600822924),(6,.int .u64 528734635),(7,.int .u64 1541459225)]=some (uL .own FI):=by
 refine(ANb 1779033703 3144134277 1013904242 2773480762 1359893119 2600822924 528734635 1541459225).trans ?_
 kernel_rfl
theorem AQB (N:Nat) (hN:N<2147483648):∀(n i:Nat) (p:List UInt8),i+n=8→(p.length+n)%64=0→p.length<2147483000→
 V8 (bL .own p) (.int .u64 ((8*N:Nat):Int)) (.int .i64 ((n:Int)-1)) []=
  some (.str (Gv (blocks ((p++IV (8*N) n i).length/64) FI (p++IV (8*N) n i)) 32 0 (List.replicate 32 0)),[]):=by
 intro n
 induction n with
 |zero=>
  intro i p hi hp hl
  rw[UM,AAS]
  refine(AP0 (by omega) _).trans ?_
  rw[BV,AHI]
  refine(AA AD7 _).trans ?_
  rw[ABh]
  refine(AA AD9 _).trans<|(AA (show Dp [] (uL .own FI)=some (IG,box FI)by simp[Dp,uL,Py,AHq,IG,box]) _).trans ?_
  rw[ABi]
  simp only[IV,List.append_nil]
  have:=AQA p .sh (by omega) (p.length/64) 0 FI (by omega) AHq ANX
  rw[List.drop_zero]at this
  exact this
 |succ n ih=>
  intro i p hi hp hl
  rw[UM,AAS]
  refine(APz (by omega) _).trans ?_
  rw[BU,AHG,show((n+1:Nat):Int)-1=(n:Int)by omega]
  refine(Yd (a:=8) (by omega) _).trans<|(AC1 (by omega) _).trans ?_
  refine(RX (Nat.pow_pos (by decide)) (by omega) _).trans<|(Ui (b:=256) (by decide) _).trans<|(cv8 _).trans ?_
  refine(app1 (Or.inl rfl) (by omega) _ (Nat.mod_lt _ (by decide)) _).trans ?_
  rw[AHH]
  refine(AA (Ku _ _ _) _).trans ?_
  rw[wrap_i64 (by omega) (by omega),Nat.mod_mod]
  have:=ih (i+1) (p++[lb (8*N) i]) (by omega) (by simp;omega) (by simp;omega)
  rw[List.append_assoc,List.singleton_append,lb,show 56-8*i=8*n by omega]at this
  rw[IV,lb,show 56-8*i=8*n by omega]
  exact this
theorem AQC (s:List UInt8) (hs:s.length<2147483648):∀(n:Nat) (p:List UInt8),Nv p.length=n→p.length+n<2147482000→
 V7 (.str s) (bL .own p) []=
  some (.str (Gv (blocks ((p++List.replicate n 0++IV (8*s.length) 8 0).length/64) FI (p++List.replicate n 0++IV (8*s.length) 8 0)) 32 0 (List.replicate 32 0)),[]):=by
 intro n
 induction n with
 |zero=>
  intro p hp hl
  rw[UN,AAR]
  refine Kz _ |>.trans ?_
  refine(AA (MH _ _ _ (by omega)) _).trans ?_
  rw[show(p.length:Int).tmod 64=((p.length%64:Nat):Int)by rfl]
  simp only[Nv]at hp
  refine(AS7 (by omega) _).trans ?_
  rw[BV,AHE,List.replicate_zero,List.append_nil]
  refine(AA (show lenV P 9 (.str s)=some (.int .i64 (s.length:Int))by simp[lenV,Gj]) _).trans ?_
  refine(Yd (a:=8) (by omega) _).trans ?_
  refine(AA (Bv Ef ..) _).trans ?_
  rw[wrap_u64 (by omega) (by omega),AHF]
  exact AQB s.length hs 8 0 p rfl (by omega) (by omega)
 |succ n ih=>
  intro p hp hl
  rw[UN,AAR]
  refine Kz _ |>.trans ?_
  refine(AA (MH _ _ _ (by omega)) _).trans ?_
  rw[show(p.length:Int).tmod 64=((p.length%64:Nat):Int)by rfl]
  simp only[Nv]at hp
  refine(AS6 (by omega) _).trans ?_
  rw[BU,AHD]
  refine(app1 (Or.inl rfl) (by omega) 0 (by omega) _).trans ?_
  have:=ih (p++[0]) (by simp only[Nv,List.length_append,List.length_cons,List.length_nil];omega) (by simp;omega)
  rw[List.append_assoc p [0],List.singleton_append]at this
  exact this
theorem AHy {B:Type} {h:List V} {s:List UInt8} (hs:s.length≤2147483648) (K:V→Option B):(conv P h 9 117 (.str s)).bind K=K (bL .own s):=
 AA (by simp[conv,J5,Ob,EI,hs,bL]) K
theorem AHz {s:List UInt8} (hs:s.length<2147480000):Cl 92 [.str s] []=some (.str (Ye s),[]):=by
 rw[APL,AHB,AHC]
 refine(AHy (by omega) _).trans ?_
 refine(app1 (Or.inl rfl) (by omega) 128 (by omega) _).trans ?_
 have z:Nv (s.length+1)<64:=Nat.mod_lt _ (by decide)
 exact AQC s (by omega) (Nv (s.length+1)) (s++[128]) (by simp) (by simp;omega)
end
section
open Go AM
def IW:Nat→Nat→List UInt8
 |0,_=>[]
 |f+1,n=>if n<128 then[UInt8.ofNat n]else UInt8.ofNat (n%128+128)::IW f (n/128)
def Ap (n:Nat):List UInt8:=IW 10 n
theorem Aj:∀f n,(IW f n).length≤f
 |0,_=>by simp[IW]
 |f+1,n=>by
  rw[IW];split
  ·simp
  ·have:=Aj f (n/128);simp;omega
def BN (f:Fl) (l:List UInt8):V:= .agg 118 [bL f l]
def Di (id:Nat):V:= .ref id [] 119
abbrev OK (f:Fl):Prop:=f= .own∨f= .nil
theorem AVi (a:Nat) (ha:a<256):AL .or (.int .u8 (a:Int)) (.int .u8 128)=some (.int .u8 ((a%128+128:Nat):Int)):=by
 have h:∀x:Fin 256,x.val|||128=x.val%128+128:=by decide
 have e:=h ⟨a,ha⟩
 rw[show(128:Int)=((128:Nat):Int)from rfl,APZ,Bo,Bo,show(BitVec.ofNat (IntKind.u8).bits a|||BitVec.ofNat (IntKind.u8).bits 128).toNat=a|||128 from AHT (w:=8) (by omega) (by omega),e,wrap_u8 (by omega) (by omega)]
theorem Rh {B:Type} {id:Nat} (K:V→Option B):(Ag (Di id)).bind K=K (Di id):=rfl
theorem AAd {B:Type} {id:Nat} (K:V→Option B):(Af P 119 0 (Di id)).bind K=K (.ref id [0] 117):=
 AA (Ip (P:=P) (t:=119) (f:=0) AHP rfl (by rw[AK0];decide) id []) K
def wk:Fl→Fl
 | .own=> .sh
 |f=>f
theorem AC3 (f:Fl) (l:List UInt8):(bL f l).weak=bL (wk f) l:=by cases f<;>rfl
theorem Pz {B:Type} {h:List V} {id:Nat} {f:Fl} {l:List UInt8} (hh:h[id]?=some (BN f l)) (K:V×List V→Option B):
 (BR h 117 (.ref id [0] 117)).bind K=K (bL f l,h.set id (BN (wk f) l)):=by
 refine AA ?_ K
 have r:rd h id [0]=some (bL f l):=Iq hh rfl
 simp[BR,r,wr,hh,BN,V.upd,AC3]
theorem tyB (f:Fl) (l:List UInt8):Bc P 117 (bL f l)=true:=by simp[Bc,Ea,bL]
theorem unB (n:Nat) {f:Fl} (hf:f≠ .lent) (l:List UInt8):(bL f l).under n=true:=by cases f<;>first|rfl|exact absurd rfl hf
theorem AAe {B:Type} {h:List V} {id:Nat} {f:Fl} {l m:List UInt8} (hh:h[id]?=some (BN f l)) (K:List V→Option B):
 (FW P h 117 (.ref id [0] 117) (bL .own m)).bind K=K (h.set id (BN .own m)):=by
 refine AA ?_ K
 exact J6 hh rfl (tyB _ _) (unB _ (by intro h;cases h) _)
theorem IX (h:List V):Cl 24 [] h=some (Di h.length,h++[BN .nil []]):=by
 rw[AOb,AFX,AFY]
 have b:bld P 119 []=some (BN .nil []):=by simp[bld,AHP,APW,CY,BN,bL,bytesOf]
 refine(AA b _).trans ?_
 have w:(BN .nil []).weak=BN .nil []:=rfl
 have c:(Bc P 119 (BN .nil [])&&V.under h.length (BN .nil []))=true:=by simp[Bc,AHP,BN,V.under,Aa,bL]
 rw[w,if_pos c];rfl
theorem AQD {n:Nat} {h:List V}:(if(List.all [] V.okE)=true then AQ n h (V.tup [])else none)=some (.tup [],h.take n):=rfl
theorem IY {h:List V} {id:Nat} {a b:V}:(h.set id a).set id b=h.set id b:=by simp
theorem AQE {id:Nat} (h0:List V) (hid:id<h0.length):∀(k n:Nat) (f:Fl) (l:List UInt8) (h:List V),h=h0.set id (BN f l)→OK f→n<128^k→n<18446744073709551616→0<k→l.length+k≤2147483648→
 VT (Di id) (.int .u64 (n:Int)) h0.length h=some (.tup [],h0.set id (BN .own (l++IW k n))):=by
 intro k
 induction k with
 |zero=>intro n f l h _ _ _ _ h0 _;omega
 |succ k ih=>
  intro n f l h eh hf hn h64 _ hl
  have hh:h[id]?=some (BN f l):=by rw[eh,List.getElem?_set];simp[hid]
  have hw:(h.set id (BN (wk f) l))[id]?=some (BN (wk f) l):=GN _ hh
  rw[AD0,AFZ]
  by_cases hb:n<128
  ·refine(AP0 (by omega) _).trans ?_
   rw[BV,AFc]
   refine(Rh _).trans<|(AAd _).trans<|(Pz hh _).trans ?_
   refine(cv8 _).trans<|(app1 hf (by omega) _ (Nat.mod_lt _ (by decide)) _).trans<|(Rh _).trans<|(AAd _).trans<|(AAe hw _).trans ?_
   rw[AQD,IY,Nat.mod_eq_of_lt (by omega),IW,if_pos hb,eh,IY,List.take_of_length_le (by simp)]
  ·refine(APz (by omega) _).trans ?_
   rw[BU,AFa]
   refine(Rh _).trans<|(AAd _).trans<|(Pz hh _).trans ?_
   refine(cv8 _).trans<|(AA (AVi _ (Nat.mod_lt _ (by decide))) _).trans<|(app1 hf (by omega) _ (by omega) _).trans<|(Rh _).trans<|(AAd _).trans<|(AAe hw _).trans ?_
   rw[AFb]
   have hs:AL .shr (.int .u64 (n:Int)) (.int .u64 7)=some (.int .u64 ((n/128:Nat):Int)):=by
    rw[UQ _ _ _ _ (by omega)]
    have:min ((7:Int)).toNat (IntKind.u64).bits=7:=by decide
    rw[this];exact congrArg _ (congrArg _ (RQ n 7))
   refine(AA hs _).trans ?_
   rw[IY,show n%256%128=n%128 by omega,IW,if_neg hb]
   have k0:0<k:=by
    rcases Nat.eq_zero_or_pos k with h|h
    ·subst h;simp at hn;omega
    ·exact h
   have:=ih (n/128) .own (l++[UInt8.ofNat (n%128+128)]) (h.set id (BN .own (l++[UInt8.ofNat (n%128+128)]))) (by rw[eh,IY]) (Or.inl rfl) (by rw[Nat.pow_succ]at hn;omega) (by omega) k0 (by simp;omega)
   rw[List.append_assoc,List.singleton_append]at this
   exact this
theorem EH {h:List V} {id n:Nat} {f:Fl} {l:List UInt8} (hh:h[id]?=some (BN f l)) (hf:OK f) (hn:n<18446744073709551616) (hl:l.length+10≤2147483648):
 Cl 25 [Di id,.int .u64 (n:Int)] h=some (.tup [],h.set id (BN .own (l++Ap n))):=by
 rw[AOc]
 exact AQE h (IB hh) 10 n f l h (Wn hh).symm hf (Nat.lt_of_lt_of_le hn (by decide)) hn (by omega) hl
theorem ANc (id:Nat) (x:Int) (k:IntKind):AP [Di id,.int k x]=[Di id,.int k x]:=rfl
theorem Ri {h:List V} {id:Nat} {f:Fl} {l s:List UInt8} (hh:h[id]?=some (BN f l)) (hf:OK f) (hl:l.length+10+s.length≤2147483648):
 Cl 27 [Di id,.str s] h=some (.tup [],h.set id (BN .own (l++Ap s.length++s))):=by
 have nl:=Aj 10 s.length
 rw[AOe,AFd]
 refine(AA (show lenV P 9 (.str s)=some (.int .i64 (s.length:Int))by simp[lenV,Gj]) _).trans ?_
 refine(AA (Bv Ef ..) _).trans ?_
 rw[wrap_u64 (by omega) (by omega),ANc]
 refine(AA (EH hh hf (by omega) (by omega)) _).trans ?_
 have h2:=GN (BN .own (l++Ap s.length)) hh
 rw[AFe]
 refine(Rh _).trans<|(AAd _).trans<|(Pz h2 _).trans ?_
 refine(AA (AD5 Ea (Or.inl rfl) (y:=V.str s) (ys:=bytesOf s) rfl (DN s) (Hw s) (by rw[Aq,Aq,List.length_append,Ap];omega) YR) _).trans ?_
 rw[←Hu]
 refine(Rh _).trans<|(AAd _).trans<|(AAe (GN _ h2) _).trans ?_
 rw[AQD,IY,IY,List.take_of_length_le (by simp)]
theorem Gx {h:List V} {id:Nat} {f:Fl} {l:List UInt8} (hh:h[id]?=some (BN f l)):Cl 28 [Di id] h=some (.str l,h):=by
 rw[AOf,AFf,AFg]
 refine(Rh _).trans<|(AAd _).trans ?_
 have r:rd h id [0]=some (bL f l):=Iq hh rfl
 refine(AA (show CU h 117 (.ref id [0] 117)=some (bL (wk f) l)by simp[CU,CG r,AC3]) _).trans ?_
 refine(AA (show conv P h 117 9 (bL (wk f) l)=some (.str l)by simp[conv,Gj,J5,Ob,bL,Ai,Rf]) _).trans ?_
 rw[MJ,List.take_of_length_le (Nat.le_refl _)]
def Nw (n:Int):Nat:=if 0≤n then(2*n).toNat else(-2*n-1).toNat
theorem Ul {h:List V} {id:Nat} {n:Int} {f:Fl} {l:List UInt8} (hh:h[id]?=some (BN f l)) (hf:OK f) (h1: -9223372036854775808≤n) (h2:n<9223372036854775808) (hl:l.length+10≤2147483648):
 Cl 83 [Di id,.int .i64 n] h=some (.tup [],h.set id (BN .own (l++Ap (Nw n)))):=by
 rw[APH,AG9]
 refine(AA (Bv Ef ..) _).trans ?_
 refine(AA (AHR _ _ _ _ (by omega)) _).trans ?_
 refine(AA (UQ _ _ _ _ (by omega)) _).trans ?_
 have m1:min ((1:Int)).toNat (IntKind.u64).bits=1:=by decide
 have m63:min ((63:Int)).toNat (IntKind.i64).bits=63:=by decide
 rw[m1,m63]
 refine(AA (Bv Ef ..) _).trans ?_
 have key:AL .xor (.int .u64 (IntKind.wrap .u64 (IntKind.wrap .u64 n*2^1))) (.int .u64 (IntKind.wrap .u64 (n.fdiv (2^63))))=some (.int .u64 ((Nw n:Nat):Int)):=by
  rw[Ht,Ht,Ht]
  by_cases hn:0≤n
  ·have e1:n%18446744073709551616*2^1%18446744073709551616=(((2*n).toNat:Nat):Int):=by omega
   have e2:n.fdiv (2^63)%18446744073709551616=((0:Nat):Int):=by
    rw[Int.fdiv_eq_ediv_of_nonneg _ (by decide)];omega
   rw[e1,e2,u64_xor (by omega) (by omega),Nat.xor_zero,Nw,if_pos hn]
  ·have e1:n%18446744073709551616*2^1%18446744073709551616=((18446744073709551615-(-2*n-1).toNat:Nat):Int):=by omega
   have e2:n.fdiv (2^63)%18446744073709551616=((18446744073709551615:Nat):Int):=by
    rw[Int.fdiv_eq_ediv_of_nonneg _ (by decide)];omega
   have hb:(-2*n-1).toNat<18446744073709551616:=by omega
   rw[e1,e2,u64_xor (by omega) (by omega),Nw,if_neg hn]
   generalize (-2*n-1).toNat=m at hb
   have hx:∀x:Nat,x<18446744073709551616→x ^^^ 18446744073709551615=18446744073709551615-x:=by
    intro x hx
    apply Nat.eq_of_testBit_eq
    intro i
    rw[show 18446744073709551615-x=2^64-(x+1)by omega,Nat.testBit_two_pow_sub_succ (n:=64) hx i,Nat.testBit_xor,show(18446744073709551615:Nat)=2^64-1 by rfl,Nat.testBit_two_pow_sub_one]
    by_cases hi:i<64
    ·simp[hi]
    ·have:x.testBit i=false:=Nat.testBit_lt_two_pow (Nat.lt_of_lt_of_le hx (Nat.pow_le_pow_right (n:=2) (i:=64) (by decide) (by omega)))
     simp[hi,this]
   rw[hx _ (by omega)]
   congr 3;omega
 refine(AA key _).trans ?_
 rw[ANc]
 have hu:Nw n<18446744073709551616:=by simp only[Nw];split<;>omega
 refine(AA (EH hh hf hu hl) _).trans ?_
 rw[AQD,List.take_of_length_le (by simp)]
end
section
open Go AM
structure Vtx where
 id:Int
 val:Int
 act:Bool
 has:Bool
 inn:Int
 deriving DecidableEq
def GZ (x:Vtx):Prop:=I64 x.id∧I64 x.val∧I64 x.inn
abbrev Ld:TypeId:=69
def A7 (x:Vtx):V:= .agg Ld [.int .i64 x.id,.int .i64 x.val,.bool x.act,.bool x.has,.int .i64 x.inn]
@[go_sem] theorem AAf (x:Vtx):(A7 x).pl=true:=(rfl)
@[go_sem] theorem P5 (l:List Vtx):Iu (l.map A7)=true:=DC (fun _=>rfl) l
@[go_sem] theorem ALo (x:Vtx):tyG Ld (A7 x)=true:=RJ ..
@[go_sem] theorem AUe (l:List Vtx):(l.map A7).all (tyG Ld)=true:=all_map (fun _=>RJ ..) l
theorem ATD {l:List Vtx} {i:Nat} (h:i<l.length):(l.map A7)[i]?=some (A7 l[i]):=by simp[h]
end
section
open Go AM
abbrev iv (n:Nat):V:= .int .i64 (n:Int)
theorem AC4 {B:Type} {h:List V} {x:Int} (h0:0≤x) (h1:x<9223372036854775808) (K:V→Option B):(conv P h 3 75 (.int .i64 x)).bind K=K (.int .u64 (x.toNat:Int)):=by
 refine(AA (Bv Ef ..) _).trans ?_
 rw[wrap_u64 (by omega) (by omega)]
 congr 2;omega
def sL (f:Fl) (l:List (List UInt8)):V:= .lst 9 f (l.map V.str)
theorem ANd (s:List UInt8):Bc P 9 (.str s)=true:=by simp[Bc,K_9,Bd,Gj]
theorem AQF (n:Nat) (h:List V) (f:Fl) (hf:f≠ .lent) (l:List (List UInt8)):AQ n h (sL f l)=some (sL .sh l,h.take n):=by
 cases f<;>first|exact absurd rfl hf|rfl
theorem Um:∀(n:Nat) (l:List (List UInt8)),Aa n (l.map V.str)=true
 |_,[]=>rfl
 |n,x::l=>by simp only[List.map_cons,Aa,Um n l];rfl
theorem AH0 (n:Nat) (f:Fl) (l:List (List UInt8)):(sL f l).under n=true:=by cases f<;>first|rfl|exact Um n l
theorem ATE {B:Type} {f:Fl} {h:List V} {l:List (List UInt8)} (hf:OK f) (hl:l.length+1≤2147483648) (x:List UInt8) (K':V→Option B):
 (DR P 39 1 [(0,.str x)]).bind (fun y=>(EP P 39 h (sL f l) y).bind K')=K' (sL .own (l++[x])):=by
 refine(AA (AHm APU (ANd x) rfl APQ ⟨_,rfl⟩) _).trans ?_
 have t1:Hq P 9 [V.str x]=true:=by simp[Hq,ANd]
 refine(AA (AD5 APU hf (y:=V.lst 9 .own [.str x]) rfl rfl t1 (by simpa using hl) APQ) _).trans ?_
 rw[sL,List.map_append];rfl
end
end Go.Proofs.YtphoocnlpnnkdaaGreatDoor
