/-
  Part of the proof of a statement about the given program: an abstract machine over its code, the simulation, its functions' equations, what they compute.
-/
import Derived.Test.YtiegkempfolgcaaGreatDoorMg5
import Derived.Test.YtiegkempfolgcaaGreatDoorMg6
import Derived.Test.YtiegkempfolgcaaGreatDoorMg7
set_option linter.unusedVariables false
set_option linter.unusedSimpArgs false
set_option linter.unusedSectionVars false
set_option maxRecDepth 100000
noncomputable section
namespace Go.Proofs.YtiegkempfolgcaaGreatDoor
section
open Go AM
def D5:Nat→Nat→List UInt8→Nat×Nat×Nat
 |_,_,[]=>(0,0,20)
 |k,v,c::cs=>if(k=9∧1<c.toNat)∨(0<k∧c.toNat=0)then(0,0,21)else
  if c.toNat<128 then(v+c.toNat%128*128^k,k+1,0)else D5 (k+1) (v+c.toNat%128*128^k) cs
def AFH (r:Nat×Nat×Nat):V:= .tup [.int .u64 (r.1:Int),.int .i64 (r.2.1:Int),.int .i64 (r.2.2:Int)]
theorem ALg {v c k:Nat} (hv:v<128^k):v|||(c*128^k)=v+c*128^k:=by
 have e:128^k=2^(7*k):=by rw[Nat.pow_mul]
 rw[e]at hv⊢
 rw[Nat.or_comm,Nat.add_comm,Nat.mul_comm,←Nat.two_pow_add_eq_or_of_lt hv]
theorem ALh (k c:Nat) (K:V→Option (V×List V)):Yf (.int .i64 (k:Int)) (.int .u8 (c:Int)) K=K (.bool (decide ((k=9∧1<c)∨(0<k∧c=0)))):=by
 simp only[Yf,b_eql,b_gtr,Option.bind_some,FT]
 by_cases h1:k=9
 ·subst h1
  by_cases h2:1<c
  ·have:(1:Int)<c:=by omega
   simp[h2,this,ANm]
  ·have:¬(1:Int)<c:=by omega
   simp only[this,if_false,h2]
   by_cases h3:c=0<;>simp[h3]
 ·have:¬(k:Int)=9:=by omega
  simp only[this,if_false,h1]
  by_cases h2:0<k
  ·have:(0:Int)<k:=by omega
   simp only[this,if_true,h2]
   by_cases h3:c=0<;>simp[h3]
  ·have:¬(0:Int)<k:=by omega
   simp[this,h2]
theorem ALi {v k c:Nat} (hc:c<256) (h9:k≤9) (hk:k=9→c≤1) (hv:v<128^k) (K:V→Option (V×List V)):
 Yg (.int .u64 (v:Int)) (.int .i64 (k:Int)) (.int .u8 (c:Int)) K=K (.int .u64 ((v+c%128*128^k:Nat):Int)):=by
 have e:128^k=2^(7*k):=by rw[Nat.pow_mul]
 have hp:128^k≤2^63:=by rw[e];exact Nat.pow_le_pow_right (by omega) (by omega)
 have hpv:c%128*128^k<18446744073709551616:=by
  by_cases h:k=9
  ·have:=hk h
   have:c%128≤1:=by omega
   calc c%128*128^k≤1*2^63:=Nat.mul_le_mul this hp
    _<18446744073709551616:=by decide
  ·have hp8:128^k≤2^56:=by rw[e];exact Nat.pow_le_pow_right (by omega) (by omega)
   calc c%128*128^k≤127*2^56:=Nat.mul_le_mul (by omega) hp8
    _<18446744073709551616:=by decide
 have hm:c&&& 127=c%128:=Nat.and_two_pow_sub_one_eq_mod c 7
 have hv64:v<18446744073709551616:=Nat.lt_of_lt_of_le hv (Nat.le_trans hp (by decide))
 have h7:(7:Int)*(k:Int)=((7*k:Nat):Int):=by omega
 have hcm:c%128<128:=Nat.mod_lt _ (by omega)
 have hor:=ALg (c:=c%128) hv
 simp only[Yg]
 rw[show(127:Int)=((127:Nat):Int)from rfl,u8_and hc (by omega),hm]
 simp only[Option.bind_some]
 rw[Ba GZ,wrap_u64 (by omega) (by omega),Option.bind_some,Rw,h7,wrap_i64 (by omega) (by omega),Option.bind_some,Ba Nw,wrap_u64 (by omega) (by omega),Option.bind_some,AFD _ _ _ _ (by omega)]
 have hmin:min ((7*k:Nat):Int).toNat (IntKind.u64).bits=7*k:=by
  simp only[Int.toNat_natCast,IntKind.bits];omega
 rw[hmin]
 have hcast:(((c%128:Nat):Int)*2^(7*k))=((c%128*128^k:Nat):Int):=by rw[e];push_cast;rfl
 rw[hcast,wrap_u64 (by omega) (by omega),Option.bind_some,u64_or hv64 hpv,Option.bind_some,hor]
theorem WZ:∀(cs s:List UInt8) (k v:Nat),s.drop k=cs→k≤s.length→k≤9→s.length<4611686018427387904→v<128^k→
 Ud (.str s) (.int .u64 (v:Int)) (.int .i64 (s.length:Int)) (.int .i64 (k:Int))=some (AFH (D5 k v cs),[]):=by
 intro cs
 induction cs with
 |nil=>
  intro s k v hd hk h9 hl hv
  have hk':k=s.length:=by
   have:=congrArg List.length hd
   simp at this;omega
  rw[Rq]
  simp only[Ye,b_lss,Option.bind_some,FT,hk',Int.lt_irrefl,if_false,Zt,D5,AFH]
  rfl
 |cons c cs ih=>
  intro s k v hd hk h9 hl hv
  have hb:s[k]?=some c:=by
   have:=congrArg (·[0]?) hd
   simpa [List.getElem?_drop]using this
  have hlt:k<s.length:=by
   rcases Nat.lt_or_ge k s.length with h|h
   ·exact h
   ·rw[List.getElem?_eq_none h]at hb;cases hb
  have hd':s.drop (k+1)=cs:=by
   rw[←List.drop_drop,hd];rfl
  have hc:c.toNat<256:=c.toNat_lt
  rw[Rq]
  simp only[Ye,AEe,AEf,AEg,AEh,
   b_lss,Option.bind_some,FT,Int.ofNat_lt,hlt,if_true,AHx GH hb,ALh,D5]
  by_cases hbad:(k=9∧1<c.toNat)∨(0<k∧c.toNat=0)
  ·simp only[hbad,if_true];rfl
  ·simp only[hbad,if_false]
   rw[ALi hc h9 (fun h=>by omega) hv]
   have h128:(((c.toNat:Nat):Int)<128)↔c.toNat<128:=by omega
   simp only[h128]
   by_cases hs:c.toNat<128
   ·simp only[hs,if_true,Zq]
    rw[DR,show((k:Int)+1)=((k+1:Nat):Int)by omega,wrap_i64 (by omega) (by omega)]
    rfl
   ·simp only[hs,if_false,Zr]
    rw[DR,show((k:Int)+1)=((k+1:Nat):Int)by omega,wrap_i64 (by omega) (by omega),Option.bind_some]
    have hk9:k<9:=by omega
    refine ih s (k+1) _ hd' (by omega) (by omega) hl ?_
    have:c.toNat%128<128:=Nat.mod_lt _ (by omega)
    calc v+c.toNat%128*128^k<128^k+127*128^k:=Nat.add_lt_add_of_lt_of_le hv (Nat.mul_le_mul_right _ (by omega))
     _=128^(k+1):=by rw[Nat.pow_succ];omega
theorem Ry (s:List UInt8) (hl:s.length<4611686018427387904):Cl 79 [.str s] []=some (AFH (D5 0 0 s),[]):=by
 rw[ALE]
 simp only[AEb,AEc,AEd,ABE GH,Option.bind_some]
 exact WZ s s 0 0 rfl (Nat.zero_le _) (by omega) hl (by decide)
end
section
open Go AM
section
variable {P:Program}
theorem FU {t u:TypeId} {fs:List TypeId} {f:Nat} {ft:TypeId} (hk:K P t= .struct u fs) (hf:fs[f]?=some ft) (hc:P.cellsOf ft≠0) (id:Nat) (p:List Nat):A7 P t f (.ref id p t)=some (.ref id (p++[f]) ft):=by
 simp[A7,hk,hf,hc]
theorem BR {h:List V} {t:TypeId} {id:Nat} {p:List Nat} {v:V} (hr:rd h id p=some v):Aa h t (.ref id p t)=some v:=by simp[Aa,hr]
theorem KJ {h:List V} {t:TypeId} {v:V}:Aa h t (.rop t v)=some v:=by simp[Aa]
theorem Cm {h:List V} {id:Nat} {v:V} (hv:h[id]?=some v):rd h id []=some v:=by simp[rd,hv,V.at]
theorem Jq {h:List V} {id i:Nat} {u:TypeId} {fs:List V} {v:V} (hv:h[id]?=some (.agg u fs)) (hi:fs[i]?=some v):rd h id [i]=some v:=by simp[rd,hv,V.at,hi]
theorem Ce {h:List V} {t:TypeId} {id:Nat} {v w:V} (hw:h[id]?=some w) (ht:BN P t v=true) (hu:v.under (id+1)=true):Ec P h t (.ref id [] t) v=some (h.set id v):=by
 simp[Ec,ht,hu,wr,hw,V.upd]
theorem G9 {h:List V} {t u:TypeId} {id i:Nat} {fs:List V} {v x:V} (hw:h[id]?=some (.agg u fs)) (hi:fs[i]?=some x) (ht:BN P t v=true) (hu:v.under (id+1)=true):Ec P h t (.ref id [i] t) v=some (h.set id (.agg u (fs.set i v))):=by
 simp[Ec,ht,hu,wr,hw,V.upd,hi]
end
theorem KL {α:Type} (h:List α) (z:α):(h++[z])[h.length]?=some z:=by simp
theorem JB {α:Type} {h:List α} {i:Nat} {x:α} (z:List α) (hx:h[i]?=some x):(h++z)[i]?=some x:=by
 have hi:i<h.length:=by
  rcases Nat.lt_or_ge i h.length with h'|h'
  ·exact h'
  ·rw[List.getElem?_eq_none h']at hx;cases hx
 rw[List.getElem?_append_left hi];exact hx
theorem JC {α:Type} {h:List α} {i:Nat} {x:α} (y:α) (hx:h[i]?=some x):(h.set i y)[i]?=some y:=by
 have hi:i<h.length:=by
  rcases Nat.lt_or_ge i h.length with h'|h'
  ·exact h'
  ·rw[List.getElem?_eq_none h']at hx;cases hx
 rw[List.getElem?_set];simp[hi]
theorem Yn {α:Type} {h:List α} {i j:Nat} (y:α) (hij:j≠i):(h.set i y)[j]?=h[j]?:=by
 rw[List.getElem?_set];simp[Ne.symm hij]
theorem KN {α:Type} {l:List α} {i:Nat} {a:α} (h:l[i]?=some a):l.set i a=l:=by
 apply List.ext_getElem?
 intro j
 by_cases hj:j=i
 ·subst hj;rw[JC a h,h]
 ·rw[Yn a hj]
theorem HY {α:Type} {h:List α} {i:Nat} {x:α} (hx:h[i]?=some x):i<h.length:=by
 rcases Nat.lt_or_ge i h.length with h'|h'
 ·exact h'
 ·rw[List.getElem?_eq_none h']at hx;cases hx
theorem Wh {α:Type} (h:List α) (z y:α):(h++[z]).set h.length y=h++[y]:=by simp
theorem Nz {α:Type} {h:List α} {i:Nat} (z:List α) (y:α) (hi:i<h.length):(h++z).set i y=h.set i y++z:=by rw[List.set_append_left _ _ hi]
theorem Wi {α:Type} (h z:List α):(h++z).take h.length=h:=by simp
theorem take_len {α:Type} (h:List α):h.take h.length=h:=by simp
theorem take_set {α:Type} (h z:List α) (i:Nat) (y:α):(h.set i y++z).take h.length=h.set i y:=by
 have:(h.set i y).length=h.length:=by simp
 rw[←this];simp
theorem ALj (id:Nat) (p:List Nat) (t:TypeId):List.all [V.ref id p t] V.capOk=true:=rfl
theorem Gn {R:Type} {f:FuncId} {cs vs h:List V} (k:V→List V→Option R) (he:Dn.ext f=false) (hp:Dn.pure f=false) (hs:(Dn.seq f).1=0:=by kernel_rfl):CB P Dn W (.clo f cs) vs h k=(Cl f (AP (vs++cs)) h).bind fun r=>k r.1 r.2:=by
 simp only[CB,IB,he,hp,hs,ne_eq,not_true_eq_false,Bool.false_eq_true,if_false,if_true];rfl
theorem KO {R:Type} {f:FuncId} {cs vs h:List V} (k:V→List V→Option R) (he:Dn.ext f=false) (hp:Dn.pure f=true) (hs:(Dn.seq f).1=0:=by kernel_rfl):CB P Dn W (.clo f cs) vs h k=(Cl f (AL h (vs++cs)) []).bind fun r=>k r.1 h:=by
 simp only[CB,IB,he,hp,hs,ne_eq,not_true_eq_false,Bool.false_eq_true,if_false,if_true];rfl
end
section
open Go AM
def BG (s:List UInt8) (e:Nat):V:= .agg 129 [.str s,.int .i64 (e:Int)]
def CQ (id:Nat):V:= .ref id [] 130
theorem ANp (id:Nat):A7 P 130 0 (.ref id [] 130)=some (.ref id [0] 9):=FU ABC rfl (by rw[ANe];decide) id []
theorem AHy (id:Nat):A7 P 130 1 (.ref id [] 130)=some (.ref id [1] 34):=FU ABC rfl (by rw[ALZ];decide) id []
theorem ALk {h:List V} {id:Nat} {s:List UInt8} {e:Nat} (hh:h[id]?=some (BG s e)):Aa h 9 (.ref id [0] 9)=some (.str s):=BR (Jq (i:=0) hh rfl)
theorem AHz {h:List V} {id:Nat} {s:List UInt8} {e:Nat} (hh:h[id]?=some (BG s e)):Aa h 34 (.ref id [1] 34)=some (.int .i64 (e:Int)):=BR (Jq (i:=1) hh rfl)
theorem AQR {h:List V} {id:Nat} {s s':List UInt8} {e:Nat} (hh:h[id]?=some (BG s e)):Ec P h 9 (.ref id [0] 9) (.str s')=some (h.set id (BG s' e)):=
 G9 (i:=0) hh rfl (by simp[BN,K_9,BO,GH]) rfl
theorem AQS {h:List V} {id:Nat} {s:List UInt8} {e e':Nat} (hh:h[id]?=some (BG s e)):Ec P h 34 (.ref id [1] 34) (.int .i64 (e':Int))=some (h.set id (BG s e')):=
 G9 (i:=1) hh rfl (by simp[BN,ANi,BO,AE9]) rfl
def Reads (f:V) (h:List V) (s:List UInt8) (n e:Nat) (h':List V):Prop:=
 ∀(k:V→List V→Option (V×List V)),CB P Dn W f [.str s] h k=k (.tup [.int .i64 (n:Int),.int .i64 (e:Int)]) h'
theorem PX (n:Nat) (h:List V) (b:Bool):AV n h (.bool b)=some (.bool b,h.take n):=rfl
theorem Ee (n:Nat) (h:List V) (k:IntKind) (b:Int):AV n h (.int k b)=some (.int k b,h.take n):=rfl
theorem N7 (n:Nat) (h:List V) (s:List UInt8):AV n h (.str s)=some (.str s,h.take n):=rfl
theorem PY {f:V} {h:List V} {id:Nat} {s:List UInt8} {e:Nat} (hh:h[id]?=some (BG s e)) (he:e≠0):Cl 77 [CQ id,f] h=some (.bool false,h):=by
 rw[AEW]
 have:(e:Int)≠0:=by omega
 simp only[Yc,Yd,AEP,Bj,CQ,Option.bind_some,AHy,AHz hh,b_neq,FT,this,ne_eq,not_false_eq_true,if_true,PX,take_len]
theorem Ut {f:V} {h h':List V} {id:Nat} {s:List UInt8} {n e:Nat} (hh:h[id]?=some (BG s 0)) (hf:Reads f h s n e h') (hh':h'[id]?=some (BG s 0)) (hn:n≤s.length):
 Cl 77 [CQ id,f] h=some (.bool (decide (e=0)),(h'.set id (if e=0 then BG (s.drop n) 0 else BG s e)).take h.length):=by
 have hid:=HY hh'
 have g1:(h'.set id (BG s e))[id]?=some (BG s e):=JC _ hh'
 rw[AEW]
 simp only[Yc,Yd,AEQ,AER,AES,AET,AEU,AEV,Bj,CQ,Option.bind_some,
  ANp,AHy,AHz hh,ALk hh,b_neq,FT,Int.natCast_zero,ne_eq,not_true_eq_false,if_false]
 rw[hf]
 simp only[V.noOwn,BI,Bool.and_self,if_true,ext,List.getElem?_cons_zero,List.getElem?_cons_succ,Option.bind_some,AQS hh',FT]
 by_cases he:e=0
 ·subst he
  have b1:Jm P 9 (.str s) (some (.int .i64 (n:Int))) none none=some (.str (s.drop n)):=by
   simp[Jm,Zg,GH,Bv,hn]
  have g1':(h'.set id (BG s 0))[id]?=some (BG s 0):=g1
  simp only[b_neq,FT,Int.natCast_zero,ne_eq,not_true_eq_false,if_false,ALk g1',b1,Option.bind_some,AQR g1',List.set_set,PX,if_true,decide_true]
 ·have:(e:Int)≠0:=by omega
  simp only[b_neq,FT,Option.bind_some,this,ne_eq,not_false_eq_true,if_true,PX,he,if_false,decide_false]
theorem AH0 {h:List V} {id:Nat} {s:List UInt8} (hh:h[id]?=some (BG s 0)) (hl:s.length<4611686018427387904) (x:Int):
 Reads (.clo 78 [.ref h.length [] 93]) (h++[.int .u64 x]) s (D5 0 0 s).2.1 (D5 0 0 s).2.2 (h++[.int .u64 ((D5 0 0 s).1:Int)]):=by
 intro k
 rw[Gn k (by kernel_rfl) (by kernel_rfl)]
 have e1:AP ([V.str s]++[V.ref h.length [] 93])=[V.str s,V.ref h.length [] 93]:=rfl
 have s1:∀y:Int,Ec P (h++[V.int .u64 x]) 93 (.ref h.length [] 93) (.int .u64 y)=some (h++[.int .u64 y]):=by
  intro y
  rw[Ce (KL h _) (by simp[BN,ANk,BO,GZ]) rfl,Wh]
 rw[e1,ALD]
 have e2:AL (h++[V.int .u64 x]) [V.str s]=[V.str s]:=rfl
 simp only[AEX,AEY,AEZ,AEa,e2,Ry s hl,AFH,Option.bind_some,ext,List.getElem?_cons_zero,List.getElem?_cons_succ,s1]
 have e3:(h++[V.int .u64 ((D5 0 0 s).1:Int)]).take (h++[V.int .u64 x]).length=h++[V.int .u64 ((D5 0 0 s).1:Int)]:=by
  rw[show(h++[V.int .u64 x]).length=(h++[V.int .u64 ((D5 0 0 s).1:Int)]).length by simp,take_len]
 simp only[List.all_cons,List.all_nil,V.okE,Bool.and_self,if_true,AV,V.unmut,CY,V.norm,AP,V.clean,AY,V.over,DU,Bool.and_self,if_true,e3,Option.bind_some]
theorem N8:∀(cs:List UInt8) (k v:Nat),(D5 k v cs).2.1≤k+cs.length
 |[],k,v=>by simp[D5]
 |c::cs,k,v=>by
  simp only[D5]
  split
  ·simp
  ·split
   ·simp
   ·have:=N8 cs (k+1) (v+c.toNat%128*128^k)
    simp;omega
def AU (s:List UInt8) (e:Nat):Nat×List UInt8×Nat:=
 if e≠0 then(0,s,e)else let r:=D5 0 0 s;(r.1,if r.2.2=0 then s.drop r.2.1 else s,r.2.2)
theorem He {h:List V} {id:Nat} {s:List UInt8} {e:Nat} (hh:h[id]?=some (BG s e)) (hl:s.length<4611686018427387904):
 Cl 55 [CQ id] h=some (.int .u64 ((AU s e).1:Int),h.set id (BG (AU s e).2.1 (AU s e).2.2)):=by
 have hid:=HY hh
 have s0:Ec P (h++[zero P 93]) 93 (.ref h.length [] 93) (.int .u64 0)=some (h++[.int .u64 0]):=by
  rw[Ce (KL h _) (by simp[BN,ANk,BO,GZ]) rfl,Wh]
 have hh1:(h++[V.int .u64 0])[id]?=some (BG s e):=JB _ hh
 rw[AK2]
 simp only[AD5,AD6,AD7,AD8,s0,Option.bind_some,ALj,if_true]
 have e1:AP [CQ id,V.clo 78 [V.ref h.length [] 93]]=[CQ id,V.clo 78 [V.ref h.length [] 93]]:=rfl
 rw[e1]
 by_cases he:e=0
 ·subst he
  have hl2:=N8 s 0 0
  rw[Ut hh1 (AH0 hh hl 0) (JB _ hh) (by omega)]
  simp only[Option.bind_some]
  rw[Nz _ _ hid]
  have e4:∀y,(h.set id y++[V.int .u64 ((D5 0 0 s).1:Int)]).take (h++[V.int .u64 0]).length=h.set id y++[V.int .u64 ((D5 0 0 s).1:Int)]:=by
   intro y
   rw[show(h++[V.int .u64 0]).length=(h.set id y++[V.int .u64 ((D5 0 0 s).1:Int)]).length by simp,take_len]
  rw[e4]
  have e5:∀y,Aa (h.set id y++[V.int .u64 ((D5 0 0 s).1:Int)]) 93 (.ref h.length [] 93)=some (.int .u64 ((D5 0 0 s).1:Int)):=by
   intro y
   refine BR (Cm ?_)
   simp
  rw[e5,Option.bind_some,Ee,take_set]
  simp only[AU,ne_eq,not_true_eq_false,if_false]
  by_cases h2:(D5 0 0 s).2.2=0<;>simp[h2]
 ·rw[PY hh1 he]
  simp only[Option.bind_some]
  have e5:Aa (h++[V.int .u64 0]) 93 (.ref h.length [] 93)=some (.int .u64 0):=BR (Cm (KL h _))
  rw[e5,Option.bind_some,Ee,Wi]
  simp only[AU,he,ne_eq,not_false_eq_true,if_true]
  rw[KN hh];rfl
theorem PZ {h:List V} {id:Nat} {s:List UInt8} {e:Nat} (hh:h[id]?=some (BG s e)):Cl 82 [CQ id] h=some (.int .i64 (e:Int),h):=by
 rw[ALG]
 simp only[AEj,AEk,Bj,CQ,Option.bind_some,AHy,AHz hh,Ee,take_len]
def EM (s:List UInt8) (e:Nat):Nat:=if e=0∧s≠[]then 22 else e
theorem Uu {h:List V} {id:Nat} {s:List UInt8} {e:Nat} (hh:h[id]?=some (BG s e)):Cl 86 [CQ id] h=some (.int .i64 (EM s e:Int),h):=by
 rw[ALK]
 simp only[AEy,AEz,AE0,AE1,Bj,CQ,Option.bind_some,ANp,AHy,AHz hh,ALk hh,b_eql,s_neq,FT,ANn,Ee,take_len,EM]
 by_cases he:e=0
 ·subst he
  by_cases hs:s=[]<;>simp[hs]
 ·have:¬(e:Int)=0:=by omega
  simp[he,this]
theorem FV (h:List V) (s:List UInt8):Cl 54 [.str s] h=some (CQ h.length,h++[BG s 0]):=by
 rw[AK1]
 have e1:YO P 130 [(0,V.str s)]=some (BG s 0):=by
  simp[YO,ABC,ALd,Cb,BN,K_9,BO,GH,cp,ALX,BG]
 have e2:BN P 130 (BG s 0)=true:=by simp[BN,ABC,BG]
 have e3:V.under h.length (BG s 0)=true:=rfl
 simp only[AD3,AD4,e1,Option.bind_some,e2,e3,Bool.and_self,if_true,Vl]
 rfl
end
section
open Go AM
def vw (n:Nat):V:= .int .u32 (n:Int)
def KP (l:List Nat):List V:=l.map vw
def A8 (l:List Nat):V:= .agg 184 (KP l)
def Qp (l:List Nat):V:= .agg 204 (KP l)
def B32 (l:List Nat):Prop:=∀x∈l,x<4294967296
def Gf (x n:Nat):Nat:=x*2^(32-n)%4294967296|||x/2^n
theorem Dj {x n:Nat} (hx:x<4294967296):Gf x n<4294967296:=
 Nat.or_lt_two_pow (n:=32) (Nat.mod_lt _ (by decide)) (Nat.lt_of_le_of_lt (Nat.div_le_self _ _) hx)
theorem GI (n:Int):IntKind.wrap .u64 n=n%18446744073709551616:=by simp[IntKind.wrap,IntKind.bits,IntKind.signed]
theorem Pe (a n:Nat):Int.fdiv (a:Int) (2^n)=((a/2^n:Nat):Int):=by
 have e:(2:Int)^n=((2^n:Nat):Int):=by push_cast;rfl
 rw[e,Int.fdiv_eq_ediv_of_nonneg _ (Int.natCast_nonneg _)];rfl
theorem N9 {a:Nat} (n:Nat) (hn:n≤32):AO .shr (.int .u32 (a:Int)) (.int .u64 (n:Int))=some (.int .u32 ((a/2^n:Nat):Int)):=by
 rw[Rx _ _ _ _ (by omega)]
 have:min ((n:Int)).toNat (IntKind.u32).bits=n:=by simp[IntKind.bits];omega
 rw[this,Pe]
theorem OA {a:Nat} (n:Nat) (hn:n≤32):AO .shl (.int .u32 (a:Int)) (.int .u64 (n:Int))=some (.int .u32 ((a*2^n%4294967296:Nat):Int)):=by
 rw[AFD _ _ _ _ (by omega)]
 have:min ((n:Int)).toNat (IntKind.u32).bits=n:=by simp[IntKind.bits];omega
 rw[this]
 have e:((a:Int)*2^n)=((a*2^n:Nat):Int):=by push_cast;rfl
 rw[e,G8]
theorem AH1 (a b:Nat):AO .add (.int .u32 (a:Int)) (.int .u32 (b:Int))=some (.int .u32 (((a+b)%4294967296:Nat):Int)):=by
 rw[DR,show(a:Int)+(b:Int)=((a+b:Nat):Int)by omega,G8]
theorem AH2 {x:Nat} (hx:x<4294967296) (n:Nat) (h1:1≤n) (h2:n≤31):Cl 156 [.int .u32 (x:Int),.int .i64 (n:Int)] []=some (.int .u32 (Gf x n:Int),[]):=by
 have key:Cl 172 [.int .u32 (x:Int),.int .i64 (-(n:Int))] []=some (.int .u32 (Gf x n:Int),[]):=by
  rw[AHu]
  have w:IntKind.wrap .u64 (-(n:Int))=((18446744073709551616-n:Nat):Int):=by rw[GI];omega
  have m:(18446744073709551616-n)&&& 31=32-n:=by
   rw[show(31:Nat)=2^5-1 from rfl,Nat.and_two_pow_sub_one_eq_mod];omega
  simp only[AA7,AA8,AA9,Ba Nw,w,Option.bind_some]
  rw[show(31:Int)=((31:Nat):Int)from rfl,u64_and (by omega) (by omega),m,Option.bind_some,OA _ (by omega),Option.bind_some,PW,show(32:Int)-((32-n:Nat):Int)=(n:Int)by omega,wrap_u64 (by omega) (by omega),Option.bind_some,N9 _ (by omega),Option.bind_some,
   u32_or (Nat.mod_lt _ (by decide)) (Nat.lt_of_le_of_lt (Nat.div_le_self _ _) hx),Option.bind_some,Ee]
  rfl
 rw[AHt]
 have ng:un .neg (.int .i64 (n:Int))=some (.int .i64 (-(n:Int))):=by
  simp only[un];rw[show(0:Int)-(n:Int)= -(n:Int)by omega,wrap_i64 (by omega) (by omega)]
 have e:AL [] [V.int .u32 (x:Int),V.int .i64 (-(n:Int))]=[V.int .u32 (x:Int),V.int .i64 (-(n:Int))]:=rfl
 simp only[AA5,AA6,ng,Option.bind_some,e,key]
 rfl
theorem ANq {h:List V} {x:Nat} (hx:x<4294967296) (n:Nat) (h1:1≤n) (h2:n≤31):Cl 156 (AL h [.int .u32 (x:Int),.int .i64 (n:Int)]) []=some (.int .u32 (Gf x n:Int),[]):=AH2 hx n h1 h2
theorem JD {l:List Nat} {i:Nat} (hi:i<l.length):(KP l)[i]?=some (vw (l.getD i 0)):=by
 simp[KP,List.getElem?_map,List.getElem?_eq_getElem hi]
theorem B32.get {l:List Nat} (h:B32 l) (i:Nat):l.getD i 0<4294967296:=by
 rcases Nat.lt_or_ge i l.length with hi|hi
 ·rw[List.getD_eq_getElem?_getD,List.getElem?_eq_getElem hi];exact h _ (List.getElem_mem hi)
 ·rw[List.getD_eq_getElem?_getD,List.getElem?_eq_none hi];decide
theorem ABF (l:List Nat) (i x:Nat):(KP l).set i (vw x)=KP (l.set i x):=by simp[KP,List.map_set]
theorem ALl {id i:Nat} (hi:i<64):Ag P 204 (.ref id [] 204) (.int .i64 (i:Int))=some (.ref id [i] 149):=by
 have:inside (i:Int) 64=true:=by simp[inside];omega
 simp[Ag,AJz,this]
theorem ix8 {id i:Nat} (hi:i<8):Ag P 184 (.ref id [] 184) (.int .i64 (i:Int))=some (.ref id [i] 149):=by
 have:inside (i:Int) 8=true:=by simp[inside];omega
 simp[Ag,MR,this]
theorem ixK {i:Nat} (hi:i<64) {l:List Nat} (hl:l.length=64):Ag P 204 (.rop 204 (Qp l)) (.int .i64 (i:Int))=some (.rop 149 (vw (l.getD i 0))):=by
 have:inside (i:Int) 64=true:=by simp[inside];omega
 simp[Ag,AJz,this,Qp,JD (show i<l.length by omega)]
theorem ANr (x:Nat):BN P 149 (vw x)=true:=by simp[BN,AJy,BO,Us,vw]
theorem AQT {h:List V} {id i:Nat} {l:List Nat} (hh:h[id]?=some (Qp l)) (hi:i<l.length):Aa h 149 (.ref id [i] 149)=some (vw (l.getD i 0)):=BR (Jq hh (JD hi))
theorem ld8 {h:List V} {id i:Nat} {l:List Nat} (hh:h[id]?=some (A8 l)) (hi:i<l.length):Aa h 149 (.ref id [i] 149)=some (vw (l.getD i 0)):=BR (Jq hh (JD hi))
theorem ANs {h:List V} {id i x:Nat} {l:List Nat} (hh:h[id]?=some (Qp l)) (hi:i<l.length):Ec P h 149 (.ref id [i] 149) (vw x)=some (h.set id (Qp (l.set i x))):=by
 rw[G9 hh (JD hi) (ANr x) rfl,ABF];rfl
theorem st8 {h:List V} {id i x:Nat} {l:List Nat} (hh:h[id]?=some (A8 l)) (hi:i<l.length):Ec P h 149 (.ref id [i] 149) (vw x)=some (h.set id (A8 (l.set i x))):=by
 rw[G9 hh (JD hi) (ANr x) rfl,ABF];rfl
def wordAt (p:List UInt8) (t:Nat):Nat:=((p.getD (4*t) 0).toNat*2^24%4294967296|||(p.getD (4*t+1) 0).toNat*2^16%4294967296)|||(p.getD (4*t+2) 0).toNat*2^8%4294967296|||(p.getD (4*t+3) 0).toNat
def Wj (p:List UInt8):Nat→Nat→List Nat→List Nat
 |0,_,w=>w
 |n+1,t,w=>Wj p n (t+1) (w.set t (wordAt p t))
theorem ACE (p:List UInt8) (t:Nat):wordAt p t<4294967296:=by
 have h3:(p.getD (4*t+3) 0).toNat<2^32:=Nat.lt_of_lt_of_le (UInt8.toNat_lt _) (by decide)
 refine Nat.or_lt_two_pow (n:=32) (Nat.or_lt_two_pow (n:=32) (Nat.or_lt_two_pow (n:=32) (Nat.mod_lt _ (by decide)) (Nat.mod_lt _ (by decide))) (Nat.mod_lt _ (by decide))) h3
theorem B32.set {l:List Nat} (h:B32 l) (i:Nat) {x:Nat} (hx:x<4294967296):B32 (l.set i x):=by
 intro y hy
 rcases List.mem_or_eq_of_mem_set hy with hy|rfl
 ·exact h y hy
 ·exact hx
theorem Rz {p:List UInt8} {i:Nat} (hi:i<p.length):(bytesOf p)[i]?=some (.int .u8 ((p.getD i 0).toNat:Int)):=by
 simp[bytesOf,List.getElem?_map,List.getElem?_eq_getElem hi]
theorem ixB {xs:List V} {f:Fl} {i:Nat} {v:V} (hv:xs[i]?=some v):Ag P 68 (.lst 5 f xs) (.int .i64 (i:Int))=some (.rop 5 v):=by
 have hi:=HY hv
 have:inside (i:Int) xs.length=true:=by simp[inside,hi]
 simp[Ag,H6,this,hv]
theorem ixW {xs:List V} {f:Fl} {i:Nat} {v:V} (hv:xs[i]?=some v):Ag P 68 (V.weak (.lst 5 f xs)) (.int .i64 (i:Int))=some (.rop 5 v):=by
 cases f<;>exact ixB hv
theorem AH3 {h:List V} {f:Fl} {p:List UInt8} {t:Nat} {l:List Nat} (hp:4*t+4≤p.length) (ht:t<64) (hh:h[2]?=some (Qp l)) (hl:l.length=64) (K:List V→Option (V×List V)):
 Um (.ref 2 [] 204) (.int .i64 (t:Int)) (.lst 5 f (((bytesOf p).take (4*t+4)).drop (4*t))) h K=K (h.set 2 (Qp (l.set t (wordAt p t)))):=by
 have g:∀j,j<4→(((bytesOf p).take (4*t+4)).drop (4*t))[j]?=some (.int .u8 ((p.getD (4*t+j) 0).toNat:Int)):=by
  intro j hj
  rw[List.getElem?_drop,List.getElem?_take_of_lt (by omega),Rz (by omega)]
 have i0:=ixW (f:=f) (g 0 (by omega));have i1:=ixW (f:=f) (g 1 (by omega));have i2:=ixW (f:=f) (g 2 (by omega));have i3:=ixW (f:=f) (g 3 (by omega))
 have b:∀j,(p.getD j 0).toNat<256:=fun j=>UInt8.toNat_lt _
 have c:∀x:Nat,x<256→conv P h 5 149 (.int .u8 (x:Int))=some (.int .u32 (x:Int)):=fun x hx=>by rw[Ba Us,wrap_u32 (by omega) (by omega)]
 have s24:∀x:Nat,AO .shl (.int .u32 (x:Int)) (.int .u64 24)=some (.int .u32 ((x*2^24%4294967296:Nat):Int)):=fun x=>OA (a:=x) 24 (by omega)
 have s16:∀x:Nat,AO .shl (.int .u32 (x:Int)) (.int .u64 16)=some (.int .u32 ((x*2^16%4294967296:Nat):Int)):=fun x=>OA (a:=x) 16 (by omega)
 have s8:∀x:Nat,AO .shl (.int .u32 (x:Int)) (.int .u64 8)=some (.int .u32 ((x*2^8%4294967296:Nat):Int)):=fun x=>OA (a:=x) 8 (by omega)
 have m:∀x:Nat,x%4294967296<4294967296:=fun x=>Nat.mod_lt _ (by decide)
 have o1:=Nat.or_lt_two_pow (n:=32) (m ((p.getD (4*t+0) 0).toNat*2^24)) (m ((p.getD (4*t+1) 0).toNat*2^16))
 have o2:=Nat.or_lt_two_pow (n:=32) o1 (m ((p.getD (4*t+2) 0).toNat*2^8))
 simp only[Um]
 rw[show(0:Int)=((0:Nat):Int)from rfl,show(1:Int)=((1:Nat):Int)from rfl,show(2:Int)=((2:Nat):Int)from rfl,show(3:Int)=((3:Nat):Int)from rfl,i0,i1,i2,i3]
 simp only[Option.bind_some,KJ,c _ (b _),s24,s16,s8]
 rw[u32_or (m _) (m _)]
 simp only[Option.bind_some]
 rw[u32_or o1 (m _)]
 simp only[Option.bind_some]
 rw[u32_or o2 (by have:=b (4*t+3);omega)]
 simp only[Option.bind_some]
 rw[ALl ht,Option.bind_some]
 exact(congrArg (fun z=>Option.bind z fun h_1=>K h_1) (ANs (x:=wordAt p t) hh (by omega))).trans rfl
end
section
open Go AM
def sg0 (x:Nat):Nat:=(Gf x 7 ^^^ Gf x 18) ^^^ x/2^3
def sg1 (x:Nat):Nat:=(Gf x 17 ^^^ Gf x 19) ^^^ x/2^10
def ad (a b:Nat):Nat:=(a+b)%4294967296
def SA:Nat→Nat→List Nat→List Nat
 |0,_,w=>w
 |n+1,t,w=>SA n (t+1) (w.set t (ad (ad (ad (w.getD (t-16) 0) (w.getD (t-7) 0)) (sg0 (w.getD (t-15) 0))) (sg1 (w.getD (t-2) 0))))
theorem AFI (a b:Nat):ad a b<4294967296:=Nat.mod_lt _ (by decide)
theorem Pg {a b:Nat} (ha:a<4294967296) (hb:b<4294967296):a ^^^ b<4294967296:=Nat.xor_lt_two_pow (n:=32) ha hb
theorem ALm {a b:Nat} (ha:a<4294967296) (hb:b<4294967296):a|||b<4294967296:=Nat.or_lt_two_pow (n:=32) ha hb
theorem Uw {a b:Nat} (ha:a<4294967296):a&&& b<4294967296:=Nat.lt_of_le_of_lt Nat.and_le_left ha
theorem ABG {a:Nat} (n:Nat) (ha:a<4294967296):a/n<4294967296:=Nat.lt_of_le_of_lt (Nat.div_le_self _ _) ha
theorem FW (a b:Nat):AO .add (.int .u32 (a:Int)) (.int .u32 (b:Int))=some (.int .u32 (ad a b:Int)):=AH1 a b
def rnd (k:List Nat) (w:List Nat) (t:Nat) (v:List Nat):List Nat:=
 let a:=v.getD 0 0;let b:=v.getD 1 0;let c:=v.getD 2 0;let e:=v.getD 4 0;let f:=v.getD 5 0;let g:=v.getD 6 0
 let x:=ad (ad (ad (ad (v.getD 7 0) ((Gf e 6 ^^^ Gf e 11) ^^^ Gf e 25)) (g ^^^ (e&&& (f ^^^ g)))) (k.getD t 0)) (w.getD t 0)
 let y:=ad ((Gf a 2 ^^^ Gf a 13) ^^^ Gf a 22) ((a&&& b)|||(c&&& (a|||b)))
 [ad x y,a,b,c,ad (v.getD 3 0) x,e,f,g]
def Wl (k w:List Nat):Nat→Nat→List Nat→List Nat
 |0,_,v=>v
 |n+1,t,v=>Wl k w n (t+1) (rnd k w t v)
def Ux (v:List Nat):Nat→Nat→List Nat→List Nat
 |0,_,h=>h
 |n+1,i,h=>Ux v n (i+1) (h.set i (ad (h.getD i 0) (v.getD i 0)))
def Ef:List Nat:=(match OX with|V.agg _ l=>l|_=>[]).map fun v=>match v with|V.int _ n=>n.toNat|_=>0
theorem AH4:OX=Qp Ef:=by kernel_rfl
theorem ANt:Ef.length=64:=by kernel_rfl
def Wn (h:List Nat) (p:List UInt8):List Nat:=
 let w:=SA 48 16 (Wj p 16 0 (List.replicate 64 0))
 Ux (Wl Ef w 64 0 h) 8 0 h
theorem AFJ {k w v:List Nat} (hv:B32 v) (t:Nat):B32 (rnd k w t v)∧(rnd k w t v).length=8:=by
 refine⟨?_,rfl⟩
 intro x hx
 simp only[rnd,List.mem_cons,List.not_mem_nil,or_false]at hx
 rcases hx with rfl|rfl|rfl|rfl|rfl|rfl|rfl|rfl<;>first|exact AFI _ _|exact hv.get _
theorem ABH {v:List Nat}:∀(n i:Nat) (h:List Nat),B32 h→h.length=8→B32 (Ux v n i h)∧(Ux v n i h).length=8
 |0,_,h,hb,hl=>⟨hb,hl⟩
 |n+1,i,h,hb,hl=>ABH n (i+1) _ (hb.set i (AFI _ _)) (by simp[hl])
theorem SB (h:List V):∀l:List Nat,CY h (KP l)=KP l
 |[]=>rfl
 |x::l=>by simp only[KP,List.map_cons,CY];rw[show List.map vw l=KP l from rfl,SB h l];rfl
theorem Wp:∀l:List Nat,AP (KP l)=KP l
 |[]=>rfl
 |x::l=>by simp only[KP,List.map_cons,AP];rw[show List.map vw l=KP l from rfl,Wp l];rfl
theorem SC:∀l:List Nat,AY (KP l)=true
 |[]=>rfl
 |x::l=>by simp only[KP,List.map_cons,AY];rw[show List.map vw l=KP l from rfl,SC l];rfl
theorem Wq (n:Nat):∀l:List Nat,DU n (KP l)=true
 |[]=>rfl
 |x::l=>by simp only[KP,List.map_cons,DU];rw[show List.map vw l=KP l from rfl,Wq n l];rfl
theorem FI (n:Nat):∀l:List Nat,Ae n (KP l)=true
 |[]=>rfl
 |x::l=>by simp only[KP,List.map_cons,Ae];rw[show List.map vw l=KP l from rfl,FI n l];rfl
theorem ALn (n:Nat) (h:List V) (l:List Nat):AV n h (A8 l)=some (A8 l,h.take n):=by
 simp only[AV,A8,V.unmut,SB,V.norm,Wp,V.clean,SC,V.over,Wq,Bool.and_self,if_true]
theorem AH5 (v:List Nat) (hv:v.length=8) (x w z:V):∀(n i:Nat) (hs:List Nat),i+n=8→hs.length=8→
 Nv (.ref 0 [] 184) (.ref 1 [] 184) (A8 v) (.int .i64 (i:Int)) [A8 hs,A8 (List.replicate 8 0),w,z]=some (A8 (Ux v n i hs),[]):=by
 intro n
 induction n with
 |zero=>
  intro i hs hi hl
  rw[PI]
  have:¬((i:Int)<8):=by omega
  have l0:Aa [A8 hs,A8 (List.replicate 8 0),w,z] 184 (.ref 0 [] 184)=some (A8 hs):=BR (Cm rfl)
  have s1:Ec P [A8 hs,A8 (List.replicate 8 0),w,z] 184 (.ref 1 [] 184) (A8 hs)=some [A8 hs,A8 hs,w,z]:=
   Ce rfl (by simp[BN,MR,A8]) (by simp only[A8,V.under];exact FI _ _)
  have l1:Aa [A8 hs,A8 hs,w,z] 184 (.ref 1 [] 184)=some (A8 hs):=BR (Cm rfl)
  simp only[PG,WW,b_lss,Option.bind_some,FT,this,if_false,l0,s1,l1,ALn,List.take_zero,Ux]
 |succ n ih=>
  intro i hs hi hl
  rw[PI]
  have hlt:(i:Int)<8:=by omega
  have ix:G7 P 184 (A8 v) (.int .i64 (i:Int))=some (vw (v.getD i 0)):=by
   have:inside (i:Int) 8=true:=by simp[inside];omega
   simp[G7,A8,MR,this,JD (show i<v.length by omega),cp,AFB]
  have l0:Aa [A8 hs,A8 (List.replicate 8 0),w,z] 149 (.ref 0 [i] 149)=some (vw (hs.getD i 0)):=ld8 rfl (by omega)
  have s0:Ec P [A8 hs,A8 (List.replicate 8 0),w,z] 149 (.ref 0 [i] 149) (vw (ad (hs.getD i 0) (v.getD i 0)))=some [A8 (hs.set i (ad (hs.getD i 0) (v.getD i 0))),A8 (List.replicate 8 0),w,z]:=st8 rfl (by omega)
  have a0:AO .add (vw (hs.getD i 0)) (vw (v.getD i 0))=some (vw (ad (hs.getD i 0) (v.getD i 0))):=FW _ _
  simp only[PG,WT,WU,WV,b_lss,Option.bind_some,FT,hlt,if_true,ix,ix8 (show i<8 by omega),l0,a0,s0,DR]
  rw[show((i:Int)+1)=((i+1:Nat):Int)by omega,wrap_i64 (by omega) (by omega)]
  exact ih (i+1) _ (by omega) (by simp[hl])
theorem AQW {id:Nat} (j:Nat) (hj:j<8):Ag P 184 (.ref id [] 184) (.int .i64 (j:Int))=some (.ref id [j] 149):=ix8 hj
theorem at8 {B:Type} {h:List V} {id:Nat} {v:List Nat} (hh:h[id]?=some (A8 v)) (hv:v.length=8) (j:Nat) (hj:j<8) (K:V→Option B):
 (Ag P 184 (.ref id [] 184) (.int .i64 (j:Int))).bind (fun a=>(Aa h 149 a).bind K)=K (.int .u32 (v.getD j 0:Int)):=by
 rw[AQW j hj,Option.bind_some,ld8 hh (by omega),Option.bind_some];rfl
theorem Uy {B:Type} {h:List V} {id:Nat} {v:List Nat} (hh:h[id]?=some (Qp v)) (hv:v.length=64) (j:Nat) (hj:j<64) (K:V→Option B):
 (Ag P 204 (.ref id [] 204) (.int .i64 (j:Int))).bind (fun a=>(Aa h 149 a).bind K)=K (.int .u32 (v.getD j 0:Int)):=by
 rw[ALl hj,Option.bind_some,AQT hh (by omega),Option.bind_some];rfl
theorem atK {B:Type} {h:List V} (j:Nat) (hj:j<64) (K:V→Option B):
 (Ag P 204 (.rop 204 OX) (.int .i64 (j:Int))).bind (fun a=>(Aa h 149 a).bind K)=K (.int .u32 (Ef.getD j 0:Int)):=by
 rw[AH4,ixK hj ANt,Option.bind_some,KJ,Option.bind_some];rfl
theorem trn {B:Type} {h:List V} {x:Nat} (hx:x<4294967296) (m:Nat) (h1:1≤m) (h2:m≤31) (K:V×List V→Option B):
 (Cl 156 (AL h [.int .u32 (x:Int),.int .i64 (m:Int)]) []).bind K=K (.int .u32 (Gf x m:Int),[]):=by
 rw[ANq hx m h1 h2,Option.bind_some]
theorem AB {A B:Type} {o:Option A} {x:A} (h:o=some x) (K:A→Option B):o.bind K=K x:=by rw[h];rfl
theorem Jr {B:Type} {k:IntKind} {a b:Int} (h:a<b) (K:V→Option B):(AO .lss (.int k a) (.int k b)).bind K=K (.bool true):=by
 rw[b_lss,Option.bind_some,decide_eq_true h]
theorem Js {B:Type} {k:IntKind} {a b:Int} (h:¬a<b) (K:V→Option B):(AO .lss (.int k a) (.int k b)).bind K=K (.bool false):=by
 rw[b_lss,Option.bind_some,decide_eq_false h]
theorem BP {B:Type} (a b:Option B):V.ite (.bool true) a b=a:=rfl
theorem BQ {B:Type} (a b:Option B):V.ite (.bool false) a b=b:=rfl
theorem AFK {h:List V} {v:List Nat} (hh:h[3]?=some (A8 v)) (hv:v.length=8) (K:V→V→V→V→V→V→Option (V×List V)):
 O8 (.ref 3 [] 184) h K=K (vw (v.getD 0 0)) (vw (v.getD 1 0)) (vw (v.getD 2 0)) (vw (v.getD 4 0)) (vw (v.getD 5 0)) (vw (v.getD 6 0)):=by
 unfold O8
 exact(at8 hh hv 0 (by omega) _).trans<|(at8 hh hv 1 (by omega) _).trans<|(at8 hh hv 2 (by omega) _).trans<|(at8 hh hv 4 (by omega) _).trans<|(at8 hh hv 5 (by omega) _).trans<|(at8 hh hv 6 (by omega) _)
def chE (e f g h7 k w:Nat):Nat:=ad (ad (ad (ad h7 ((Gf e 6 ^^^ Gf e 11) ^^^ Gf e 25)) (g ^^^ (e&&& (f ^^^ g)))) k) w
def mjA (a b c:Nat):Nat:=ad ((Gf a 2 ^^^ Gf a 13) ^^^ Gf a 22) ((a&&& b)|||(c&&& (a|||b)))
theorem AFL {h:List V} {v w:List Nat} {t e f g:Nat} (hh:h[3]?=some (A8 v)) (hv:v.length=8) (hw:h[2]?=some (Qp w)) (lw:w.length=64) (ht:t<64)
 (be:e<4294967296) (bf:f<4294967296) (bg:g<4294967296) (K:V→Option (V×List V)):
 O9 (.ref 2 [] 204) (.ref 3 [] 184) (.int .i64 (t:Int)) (vw e) (vw f) (vw g) h K=K (vw (chE e f g (v.getD 7 0) (Ef.getD t 0) (w.getD t 0))):=by
 have r1:=Dj (n:=6) be;have r2:=Dj (n:=11) be;have r3:=Dj (n:=25) be
 unfold O9
 refine(at8 hh hv 7 (by omega) _).trans ?_
 refine(trn be 6 (by omega) (by omega) _).trans<|(trn be 11 (by omega) (by omega) _).trans ?_
 refine(AB (u32_xor r1 r2) _).trans ?_
 refine(trn be 25 (by omega) (by omega) _).trans ?_
 refine(AB (u32_xor (Pg r1 r2) r3) _).trans ?_
 refine(AB (FW _ _) _).trans ?_
 refine(AB (u32_xor bf bg) _).trans ?_
 refine(AB (u32_and be (Pg bf bg)) _).trans ?_
 refine(AB (u32_xor bg (Uw be)) _).trans ?_
 refine(AB (FW _ _) _).trans ?_
 refine(atK t ht _).trans ?_
 refine(AB (FW _ _) _).trans ?_
 refine(Uy hw lw t ht _).trans ?_
 exact AB (FW _ _) _
theorem AFM {h:List V} {a b c:Nat} (ba:a<4294967296) (bb:b<4294967296) (bc:c<4294967296) (K:V→Option (V×List V)):
 PD (vw a) (vw b) (vw c) h K=K (vw (mjA a b c)):=by
 have r1:=Dj (n:=2) ba;have r2:=Dj (n:=13) ba;have r3:=Dj (n:=22) ba
 unfold PD
 refine(trn ba 2 (by omega) (by omega) _).trans<|(trn ba 13 (by omega) (by omega) _).trans ?_
 refine(AB (u32_xor r1 r2) _).trans ?_
 refine(trn ba 22 (by omega) (by omega) _).trans ?_
 refine(AB (u32_xor (Pg r1 r2) r3) _).trans ?_
 refine(AB (u32_and ba bb) _).trans ?_
 refine(AB (u32_or ba bb) _).trans ?_
 refine(AB (u32_and bc (ALm ba bb)) _).trans ?_
 refine(AB (u32_or (Uw ba) (Uw bc)) _).trans ?_
 exact AB (FW _ _) _
theorem AQY (z0 z1 z2 z3 z4 z5 z6 z7:Nat):YO P 184 [(0,.int .u32 (z0:Int)),(1,.int .u32 (z1:Int)),(2,.int .u32 (z2:Int)),(3,.int .u32 (z3:Int)),(4,.int .u32 (z4:Int)),(5,.int .u32 (z5:Int)),(6,.int .u32 (z6:Int)),(7,.int .u32 (z7:Int))]=some (A8 [z0,z1,z2,z3,z4,z5,z6,z7]):=by
 simp[YO,MR,Yl,Cb,BN,AJy,BO,Us,cp,AFB,A8,KP,vw,List.replicate]
theorem AFN {h:List V} {v:List Nat} {a b c e f g x y:Nat} (hh:h[3]?=some (A8 v)) (hv:v.length=8) (K:List V→Option (V×List V)):
 PE (.ref 3 [] 184) (vw a) (vw b) (vw c) (vw e) (vw f) (vw g) (vw x) (vw y) h K=K (h.set 3 (A8 [ad x y,a,b,c,ad (v.getD 3 0) x,e,f,g])):=by
 unfold PE
 refine(AB (FW _ _) _).trans ?_
 refine(at8 hh hv 3 (by omega) _).trans ?_
 refine(AB (FW _ _) _).trans ?_
 refine(AB (AQY _ _ _ _ _ _ _ _) _).trans ?_
 exact AB (Ce hh (by simp[BN,MR,A8]) (by simp only[A8,V.under];exact FI _ _)) _
theorem ALo (k w v:List Nat) (t:Nat):rnd k w t v=[ad (chE (v.getD 4 0) (v.getD 5 0) (v.getD 6 0) (v.getD 7 0) (k.getD t 0) (w.getD t 0)) (mjA (v.getD 0 0) (v.getD 1 0) (v.getD 2 0)),v.getD 0 0,v.getD 1 0,v.getD 2 0,
 ad (v.getD 3 0) (chE (v.getD 4 0) (v.getD 5 0) (v.getD 6 0) (v.getD 7 0) (k.getD t 0) (w.getD t 0)),v.getD 4 0,v.getD 5 0,v.getD 6 0]:=rfl
theorem ALp (k w:List Nat) (n t:Nat) (v:List Nat):Wl k w (n+1) t v=Wl k w n (t+1) (rnd k w t v):=rfl
theorem AH6 (h w:List Nat) (hh:h.length=8) (hw:w.length=64) (bw:B32 w):∀(n t:Nat) (v:List Nat),t+n=64→B32 v→v.length=8→
 Nu (.ref 0 [] 184) (.ref 1 [] 184) (.ref 2 [] 204) (.ref 3 [] 184) (.int .i64 (t:Int)) [A8 h,A8 (List.replicate 8 0),Qp w,A8 v]=
  some (A8 (Ux (Wl Ef w n t v) 8 0 h),[]):=by
 intro n
 induction n with
 |zero=>
  intro t v ht bv hv
  rw[PK]
  have:¬((t:Int)<64):=by omega
  have l3:Aa [A8 h,A8 (List.replicate 8 0),Qp w,A8 v] 184 (.ref 3 [] 184)=some (A8 v):=BR (Cm rfl)
  simp only[O7,WS,b_lss,Option.bind_some,FT,this,if_false,l3,Wl]
  exact AH5 v hv (A8 v) (Qp w) (A8 v) 8 0 h rfl hh
 |succ n ih=>
  intro t v ht bv hv
  rw[PK]
  have hlt:(t:Int)<64:=by omega
  have ht':t<64:=by omega
  rw[O7,Jr hlt,BP,WQ]
  rw[AFK rfl hv,AFL rfl hv rfl hw ht' (bv.get 4) (bv.get 5) (bv.get 6),AFM (bv.get 0) (bv.get 1) (bv.get 2),AFN rfl hv,←ALo]
  simp only[WR,DR]
  rw[show((t:Int)+1)=((t+1:Nat):Int)by omega,wrap_i64 (by omega) (by omega),ALp]
  have st:[A8 h,A8 (List.replicate 8 0),Qp w,A8 v].set 3 (A8 (rnd Ef w t v))=[A8 h,A8 (List.replicate 8 0),Qp w,A8 (rnd Ef w t v)]:=rfl
  rw[st]
  exact ih (t+1) _ (by omega) (AFJ bv t).1 (AFJ bv t).2
end
section
open Go AM
theorem NV {B:Type} {a b:Nat} (h:b≤a) (ha:a<2^62) (K:V→Option B):(AO .sub (.int .i64 (a:Int)) (.int .i64 (b:Int))).bind K=K (.int .i64 ((a-b:Nat):Int)):=by
 rw[PW,show(a:Int)-(b:Int)=((a-b:Nat):Int)by omega,wrap_i64 (by omega) (by omega)];rfl
theorem Ll {B:Type} {a b:Nat} (h:a+b<2^62) (K:V→Option B):(AO .add (.int .i64 (a:Int)) (.int .i64 (b:Int))).bind K=K (.int .i64 ((a+b:Nat):Int)):=by
 rw[DR,show(a:Int)+(b:Int)=((a+b:Nat):Int)by omega,wrap_i64 (by omega) (by omega)];rfl
theorem AH7 {B:Type} {a b:Nat} (h:a*b<2^62) (K:V→Option B):(AO .mul (.int .i64 (a:Int)) (.int .i64 (b:Int))).bind K=K (.int .i64 ((a*b:Nat):Int)):=by
 rw[Rw,←Int.natCast_mul,wrap_i64 (by omega) (by omega)];rfl
theorem ANu {f:Fl} {t s:TypeId} {xs:List V} {a b:Nat} (k:K P s= .slice t) (h1:a≤b) (h2:b≤xs.length):
 Jm P s (V.weak (.lst t f xs)) (some (.int .i64 (a:Int))) (some (.int .i64 (b:Int))) none=some (.lst t f.cut ((xs.take b).drop a)):=by
 have e1:(0:Int)≤(b:Int)∧b≤xs.length:=⟨by omega,h2⟩
 have e2:(0:Int)≤(a:Int)∧(a:Int)≤(b:Int):=⟨by omega,by omega⟩
 cases f<;>simp[Jm,V.weak,k,Bv,e1,e2,Fl.cut,h1,h2]
section
variable {h:List V} {w:List Nat} {t:Nat}
variable (hw:h[2]?=some (Qp w)) (lw:w.length=64) (bw:B32 w) (ht:t<64)
include hw lw bw ht
theorem AFO (h16:16≤t) (K:V→Option (V×List V)):
 O4 (.ref 2 [] 204) (.int .i64 (t:Int)) h K=K (vw (sg0 (w.getD (t-15) 0))):=by
 have b:=bw.get (t-15)
 unfold O4
 refine(NV (b:=15) (by omega) (by omega) _).trans<|(Uy hw lw (t-15) (by omega) _).trans<|(trn b 7 (by omega) (by omega) _).trans ?_
 refine(NV (b:=15) (by omega) (by omega) _).trans<|(Uy hw lw (t-15) (by omega) _).trans<|(trn b 18 (by omega) (by omega) _).trans ?_
 refine(AB (u32_xor (Dj b) (Dj b)) _).trans ?_
 refine(NV (b:=15) (by omega) (by omega) _).trans<|(Uy hw lw (t-15) (by omega) _).trans ?_
 refine(AB (N9 3 (by omega)) _).trans ?_
 exact AB (u32_xor (Pg (Dj b) (Dj b)) (ABG _ b)) _
theorem AFP (h16:16≤t) (K:V→Option (V×List V)):
 O5 (.ref 2 [] 204) (.int .i64 (t:Int)) h K=K (vw (sg1 (w.getD (t-2) 0))):=by
 have b:=bw.get (t-2)
 unfold O5
 refine(NV (b:=2) (by omega) (by omega) _).trans<|(Uy hw lw (t-2) (by omega) _).trans<|(trn b 17 (by omega) (by omega) _).trans ?_
 refine(NV (b:=2) (by omega) (by omega) _).trans<|(Uy hw lw (t-2) (by omega) _).trans<|(trn b 19 (by omega) (by omega) _).trans ?_
 refine(AB (u32_xor (Dj b) (Dj b)) _).trans ?_
 refine(NV (b:=2) (by omega) (by omega) _).trans<|(Uy hw lw (t-2) (by omega) _).trans ?_
 refine(AB (N9 10 (by omega)) _).trans ?_
 exact AB (u32_xor (Pg (Dj b) (Dj b)) (ABG _ b)) _
theorem AFQ (h16:16≤t) (x y:Nat) (K:List V→Option (V×List V)):
 O6 (.ref 2 [] 204) (.int .i64 (t:Int)) (vw x) (vw y) h K=K (h.set 2 (Qp (w.set t (ad (ad (ad (w.getD (t-16) 0) (w.getD (t-7) 0)) x) y)))):=by
 unfold O6
 refine(NV (b:=16) (by omega) (by omega) _).trans<|(Uy hw lw (t-16) (by omega) _).trans ?_
 refine(NV (b:=7) (by omega) (by omega) _).trans<|(Uy hw lw (t-7) (by omega) _).trans ?_
 refine(AB (FW _ _) _).trans ?_
 refine(AB (FW _ _) _).trans ?_
 refine(AB (FW _ _) _).trans ?_
 refine(AB (ALl ht) _).trans ?_
 exact AB (ANs hw (by omega)) _
end
theorem AH8 (n t:Nat) (w:List Nat):SA (n+1) t w=SA n (t+1) (w.set t (ad (ad (ad (w.getD (t-16) 0) (w.getD (t-7) 0)) (sg0 (w.getD (t-15) 0))) (sg1 (w.getD (t-2) 0)))):=rfl
theorem AH9 (p:List UInt8) (n t:Nat) (w:List Nat):Wj p (n+1) t w=Wj p n (t+1) (w.set t (wordAt p t)):=rfl
theorem AIA (h:List Nat) (hh:h.length=8) (bh:B32 h):∀(n t:Nat) (w:List Nat),t+n=64→16≤t→B32 w→w.length=64→
 Ns (.ref 0 [] 184) (.ref 1 [] 184) (.ref 2 [] 204) (.int .i64 (t:Int)) [A8 h,A8 (List.replicate 8 0),Qp w]=
  some (A8 (Ux (Wl Ef (SA n t w) 64 0 h) 8 0 h),[]):=by
 intro n
 induction n with
 |zero=>
  intro t w ht h16 bw lw
  rw[PL,Un,Js (by omega),BQ,WO]
  have z:zero P 184=A8 (List.replicate 8 0):=by rw[Yl];rfl
  have l0:Aa [A8 h,A8 (List.replicate 8 0),Qp w] 184 (.ref 0 [] 184)=some (A8 h):=BR (Cm rfl)
  rw[l0,z]
  refine(AB (Ce (h:=[A8 h,A8 (List.replicate 8 0),Qp w]++[A8 (List.replicate 8 0)]) rfl (by simp[BN,MR,A8]) (by simp only[A8,V.under];exact FI _ _)) _).trans ?_
  exact AH6 h w hh lw bw 64 0 h rfl bh hh
 |succ n ih=>
  intro t w ht h16 bw lw
  rw[PL,Un,Jr (by omega),BP,AFO rfl lw bw (by omega) h16,AFP rfl lw bw (by omega) h16,AFQ rfl lw bw (by omega) h16,WN,AH8]
  refine(Ll (b:=1) (by omega) _).trans ?_
  exact ih (t+1) _ (by omega) (by omega) (bw.set t (AFI _ _)) (by simp[lw])
theorem AIB (h:List Nat) (hh:h.length=8) (bh:B32 h) (p:List UInt8) (hp:p.length=64) (f:Fl):∀(n t:Nat) (w:List Nat),t+n=16→B32 w→w.length=64→
 Nr (.lst 5 f (bytesOf p)) (.ref 0 [] 184) (.ref 1 [] 184) (.ref 2 [] 204) (.int .i64 (t:Int)) [A8 h,A8 (List.replicate 8 0),Qp w]=
  some (A8 (Ux (Wl Ef (SA 48 16 (Wj p n t w)) 64 0 h) 8 0 h),[]):=by
 intro n
 induction n with
 |zero=>
  intro t w ht bw lw
  rw[PN,Ul,Js (by omega),BQ,AA4]
  exact AIA h hh bh 48 16 w rfl (by omega) bw lw
 |succ n ih=>
  intro t w ht bw lw
  rw[PN,Ul,Jr (by omega),BP,AA1,AA2]
  refine(AH7 (a:=4) (by omega) _).trans<|(AH7 (a:=4) (by omega) _).trans<|(Ll (b:=4) (by omega) _).trans ?_
  refine(AB (ANu (f:=f) (t:=5) (xs:=bytesOf p) H6 (a:=4*t) (b:=4*t+4) (by omega) (by simp[bytesOf];omega)) _).trans ?_
  rw[AH3 (by omega) (by omega) rfl lw,AA3,AH9]
  refine(Ll (b:=1) (by omega) _).trans ?_
  exact ih (t+1) _ (by omega) (bw.set t (ACE p t)) (by simp[lw])
theorem AIC {h:List Nat} (hh:h.length=8) (bh:B32 h) {p:List UInt8} (hp:p.length=64) (f:Fl):
 Cl 136 [A8 h,.lst 5 f (bytesOf p)] []=some (A8 (Wn h p),[]):=by
 have tk:(BN P 184 (A8 h)&&V.under (List.length ([]:List V)) (A8 h))=true:=by
  simp only[A8,V.under,FI,BN,MR];simp
 rw[AHs,AAy,if_pos tk,AAz,AA0,Yl,ALe]
 have Jb:B32 (List.replicate 64 0):=fun x hx=>by rw[List.eq_of_mem_replicate hx];decide
 exact AIB h hh bh p hp f 16 0 (List.replicate 64 0) rfl Jb rfl
end
section
open Go AM
section
variable {B:Type} {s e u:TypeId} {f:Fl} {xs:List V} {h:List V}
theorem IJ:∃g,V.weak (.lst e f xs)= .lst e g xs:=by cases f<;>exact⟨_,rfl⟩
theorem ACF (hu:P.underlying s=some (.slice u)) (K:V→Option B):(lenV P s (.lst e f xs)).bind K=K (.int .i64 (xs.length:Int)):=by
 simp[lenV,hu]
theorem Yo (hu:P.underlying s=some (.slice u)) (K:V→Option B):(lenV P s (V.weak (.lst e f xs))).bind K=K (.int .i64 (xs.length:Int)):=by
 obtain⟨g,hg⟩:=IJ (e:=e) (f:=f) (xs:=xs);rw[hg];exact ACF hu K
theorem ACG (hk:K P s= .slice e) {i:Nat} {v:V} (hv:xs[i]?=some v) (K:V→Option B):
 (Ag P s (.lst e f xs) (.int .i64 (i:Int))).bind K=K (.rop e v):=by
 have hi:=HY hv
 have:inside (i:Int) xs.length=true:=by simp[inside,hi]
 simp[Ag,hk,this,hv]
theorem AID (hk:K P s= .slice e) {i:Nat} {v:V} (hv:xs[i]?=some v) (K:V→Option B):
 (Ag P s (V.weak (.lst e f xs)) (.int .i64 (i:Int))).bind K=K (.rop e v):=by
 obtain⟨g,hg⟩:=IJ (e:=e) (f:=f) (xs:=xs);rw[hg];exact ACG hk hv K
theorem ldR {v:V} (K:V→Option B):(Aa h e (.rop e v)).bind K=K v:=by rw[KJ];rfl
theorem AIE {v:V} (K:V→Option B):(BA h e (.rop e v)).bind K=K v.weak:=by rw[BA,KJ];rfl
theorem AFR (hk:K P s= .slice e) (hf:f= .own∨f= .nil) {y:V} {ys:List V} (hy:Ah h y=some ys) (hc:AY ys=true) (ht:Hr P e ys=true) (hl:xs.length+ys.length≤2147483648) (hn:Bg P depth e=false) (hne:f= .nil→ys.isEmpty=false:=by first|(intro h;cases h;done)|(intro _;rfl)):
 EK P s h (.lst e f xs) y=some (.lst e .own (xs++ys)):=by
 rcases hf with rfl|rfl
 ·simp[EK,hk,hy,hc,ht,hl,Dh,Dp,hn]
 ·have:=hne rfl
  cases ys with
  |nil=>cases this
  |cons y0 ys0=>simp[EK,hk,hy,hc,ht,hl,Dh,Dp,hn]<;>exact decide_eq_true (by simpa using hl)
theorem AFS (hk:K P s= .slice e) {v:V} (ht:BN P e v=true) (hc:v.clean=true) (hn:Bg P depth e=false) (hz:∃z,zero P e=z):
 Ew P s 1 [(0,v)]=some (.lst e .own [v]):=by
 simp[Ew,hk,Cb,ht,List.replicate,cp,hn,AY,hc,Dp]
end
def bL (f:Fl) (l:List UInt8):V:= .lst 5 f (bytesOf l)
theorem Ap (l:List UInt8):(bytesOf l).length=l.length:=by simp[bytesOf]
theorem GK (a b:List UInt8):bytesOf (a++b)=bytesOf a++bytesOf b:=by simp[bytesOf]
theorem bytesOf_take (n:Nat) (a:List UInt8):(bytesOf a).take n=bytesOf (a.take n):=by simp[bytesOf,List.map_take]
theorem bytesOf_drop (n:Nat) (a:List UInt8):(bytesOf a).drop n=bytesOf (a.drop n):=by simp[bytesOf,List.map_drop]
theorem CG:∀l:List UInt8,AY (bytesOf l)=true
 |[]=>rfl
 |x::l=>by simp only[bytesOf,List.map_cons,AY];rw[show List.map _ l=bytesOf l from rfl,CG l];rfl
theorem Uz (x:Int):BN P 5 (.int .u8 x)=true:=by simp[BN,K_5,BO,PO]
theorem Ez (l:List UInt8):Hr P 5 (bytesOf l)=true:=by
 simp[Hr,bytesOf,Uz]
theorem SE {B:Type} {f:Fl} {l:List UInt8} (K':V→Option B):(lenV P 68 (V.weak (bL f l))).bind K'=K' (.int .i64 (l.length:Int)):=by
 rw[bL,Yo PU,Ap]
theorem ANv {B:Type} {f:Fl} {l:List UInt8} (K':V→Option B):(lenV P 68 (bL f l)).bind K'=K' (.int .i64 (l.length:Int)):=by
 rw[bL,ACF PU,Ap]
theorem ANw {f:Fl} {h:List V} {l m:List UInt8} {g:Fl} (hf:f= .own∨f= .nil) (hl:l.length+m.length≤2147483648) (hne:f= .nil→m.isEmpty=false:=by first|(intro h;cases h;done)|(intro _;rfl)):
 EK P 68 h (bL f l) (bL g m)=some (bL .own (l++m)):=by
 rw[bL,AFR H6 hf (y:=bL g m) (ys:=bytesOf m) rfl (CG m) (Ez m) (by simpa [Ap]using hl) Yj (fun h=>by have:=hne h;cases m<;>first|(cases this;done)|rfl),bL,GK]
theorem AFT (x:Nat) (hx:x<256):Ew P 68 1 [(0,.int .u8 (x:Int))]=some (bL .own [UInt8.ofNat x]):=by
 rw[AFS H6 (Uz _) rfl Yj ⟨_,rfl⟩,bL]
 simp[bytesOf,Nat.mod_eq_of_lt hx]
theorem app1 {B:Type} {f:Fl} {h:List V} {l:List UInt8} (hf:f= .own∨f= .nil) (hl:l.length+1≤2147483648) (x:Nat) (hx:x<256) (K':V→Option B):
 (Ew P 68 1 [(0,.int .u8 (x:Int))]).bind (fun y=>(EK P 68 h (bL f l) y).bind K')=K' (bL .own (l++[UInt8.ofNat x])):=by
 rw[AFT x hx]
 exact AB (ANw hf (by simpa using hl) (fun _=>rfl)) K'
end
section
open Go AM
def part (p:Fl×List UInt8):V:=bL p.1 p.2
def parts (L:List (Fl×List UInt8)):List V:=L.map part
def flat (L:List (Fl×List UInt8)):List UInt8:=(L.map (·.2)).flatten
theorem FX:∀l:List UInt8,AP (bytesOf l)=bytesOf l
 |[]=>rfl
 |x::l=>by simp only[bytesOf,List.map_cons,AP];rw[show List.map _ l=bytesOf l from rfl,FX l];rfl
theorem SG {L:List (Fl×List UInt8)} {i:Nat} (hi:i<L.length):(parts L)[i]?=some (part L[i]):=by
 simp[parts,hi]
theorem JE (p:Fl×List UInt8):∃g,(part p).weak=bL g p.2:=by
 obtain⟨f,l⟩:=p;exact IJ
theorem AFU {s e:TypeId} {id off len a:Nat} {p:List Nat} (k:K P s= .slice e) (h1:a≤len):
 Jm P s (V.weak (.win id p off len e)) (some (.int .i64 (a:Int))) none none=some (.win id p (off+a) (len-a) e):=by
 have e2:(0:Int)≤(a:Int)∧(a:Int)≤(len:Int):=⟨by omega,by omega⟩
 simp[Jm,V.weak,k,Bv,e2,h1]
theorem Yp {e:TypeId} {s:TypeId} {off len:Nat} {xs ys:List V} {y:V} (k:K P s= .slice e) (hy:Ah [.row e xs] y=some ys) (hc:AY ys=true) (ht:Hr P e ys=true) (hn:Bg P depth e=false) (hl:ys.length≤len):
 cpy P s [.row e xs] (.win 0 [] off len e) y=some (.int .i64 (ys.length:Int),[.row e (xs.take off++ys++xs.drop (off+ys.length))]):=by
 have m:min ys.length len=ys.length:=by omega
 simp[cpy,EL,k,hy,hc,ht,rd,V.at,V.items,wr,V.upd,Dp,hn,m]
theorem Jt (p:Fl×List UInt8) (L:List (Fl×List UInt8)):flat (p::L)=p.2++flat L:=rfl
theorem AIF (fs:Fl) (L:List (Fl×List UInt8)) (hL:L.length<2147483648) (f:Fl) (N:Nat) (hN:N<2147483648) (h0:0<N):∀(n i:Nat) (done:List UInt8),i+n=L.length→N=done.length+(flat (L.drop i)).length→
 Nq (.lst 5 fs []) (.win 0 [] 0 N 5) (.int .i64 (done.length:Int)) (.lst 68 f (parts L)) (.int .i64 (L.length:Int)) (.int .i64 (i:Int)) [.row 5 (bytesOf done++List.replicate (N-done.length) .undef)]=
  some (bL .own (done++flat (L.drop i)),[]):=by
 intro n
 induction n with
 |zero=>
  intro i done hi hn
  have hd:L.drop i=[]:=by simp;omega
  rw[hd]at hn⊢
  simp only[flat,List.map_nil,List.flatten_nil,List.length_nil,Nat.add_zero,List.append_nil]at hn⊢
  subst hn
  rw[O0,Oz,Js (by omega),BQ,WM]
  have c:Ah [V.row 5 (bytesOf done)] (.win 0 [] 0 done.length 5)=some (bytesOf done):=by
   simp[Ah,rd,V.at,V.items,Ap]
   rw[List.take_of_length_le (by simp[Ap])]
  simp[NT,c,CG,FX,bL,Nat.ble,Nat.blt,Nat.ble_eq]
  exact List.ne_nil_of_length_pos h0
 |succ n ih=>
  intro i done hi hn
  have hlt:i<L.length:=by omega
  rw[O0,Oz,Jr (by omega),BP,WH]
  refine(ACG PV (SG hlt) _).trans<|(AIE _).trans ?_
  obtain⟨g,hg⟩:=JE L[i]
  rw[hg]
  rw[WI]
  refine(AB (AFU H6 (by omega)) _).trans ?_
  refine(AB (Yp (ys:=[]) H6 (by cases fs<;>rfl) rfl rfl Yj (Nat.zero_le _)) _).trans ?_
  refine(Ll (b:=0) (by simp;omega) _).trans ?_
  simp only[List.length_nil,Nat.add_zero,Nat.zero_add,List.append_nil,List.take_append_drop]
  rw[WJ]
  have hd:flat (L.drop i)=L[i].2++flat (L.drop (i+1)):=by rw[List.drop_eq_getElem_cons hlt,Jt]
  rw[hd]at hn⊢
  rw[List.length_append]at hn
  refine(AB (AFU H6 (by omega)) _).trans ?_
  refine(AB (Yp (ys:=bytesOf L[i].2) H6 rfl (CG _) (Ez _) Yj (by rw[Ap];omega)) _).trans ?_
  rw[Ap]
  refine(Ll (by omega) _).trans ?_
  rw[WL]
  refine(Ll (b:=1) (by omega) _).trans ?_
  have:=ih (i+1) (done++L[i].2) (by omega) (by simp;omega)
  rw[List.append_assoc,List.length_append]at this
  rw[←this]
  congr 1
  simp[GK,Ap,List.take_append,List.drop_append,List.take_of_length_le,List.drop_eq_nil_of_le]
  omega
theorem AQZ {R:Type} {n:Nat} {h:List V} (hn:n≤2147483648) (k:V→List V→Option R):mnz P 0 155 [.int .i64 (n:Int)] h k=k (.win h.length [] 0 n 5) (h++[.row 5 (List.replicate n .undef)]):=by
 have:(0:Nat)=0∧(0:Int)≤(n:Int)∧(n:Int)≤(Dh:Int):=⟨rfl,by omega,by simp only[Dh];omega⟩
 unfold mnz
 refine(if_pos this).trans ?_
 have key:∀e:TypeId,e=5→k (.win h.length [] 0 (n:Int).toNat e) (h++[.row e (List.replicate (n:Int).toNat .undef)])=k (.win h.length [] 0 n 5) (h++[.row 5 (List.replicate n .undef)]):=by rintro _ rfl;rfl
 exact key _ (by kernel_rfl)
theorem AIH {s e:TypeId} {id off len b:Nat} {p:List Nat} (k:K P s= .slice e) (h1:b≤len):
 Jm P s (.win id p off len e) none (some (.int .i64 (b:Int))) (some (.int .i64 (b:Int)))=some (.win id p off b e):=by
 have e2:(0:Int)≤(b:Int)∧(b:Int)≤(len:Int):=⟨by omega,by omega⟩
 simp[Jm,V.weak,k,Bv,e2,h1]
theorem AII (fs:Fl) (L:List (Fl×List UInt8)) (hL:L.length<2147483648) (hL0:0<L.length) (f:Fl) (hN:(flat L).length<2147483648) (h0:0<(flat L).length):∀(n i acc:Nat),i+n=L.length→acc+(flat (L.drop i)).length=(flat L).length→
 Np (.lst 68 f (parts L)) (.lst 5 fs []) (.int .i64 (acc:Int)) (V.weak (.lst 68 f (parts L))) (.int .i64 (L.length:Int)) (.int .i64 (i:Int)) []=
  some (bL .own (flat L),[]):=by
 intro n
 induction n with
 |zero=>
  intro i acc hi hn
  have hd:L.drop i=[]:=by simp;omega
  rw[hd]at hn
  have e0:(flat ([]:List (Fl×List UInt8))).length=0:=rfl
  rw[O3,Oy,Js (by omega),BQ,WB]
  have hacc:acc=(flat L).length:=by omega
  subst hacc
  rw[AQZ (by omega)]
  refine(AB (AIH H6 (Nat.le_refl _)) _).trans ?_
  obtain⟨p,L',rfl⟩:=List.exists_cons_of_length_pos hL0
  rw[WC]
  refine(AID (i:=0) (v:=part p) PV rfl _).trans<|(AIE _).trans ?_
  obtain⟨g,hg⟩:=JE p
  rw[hg]
  refine(AB (Yp (ys:=bytesOf p.2) H6 rfl (CG _) (Ez _) Yj (by rw[Ap,Jt,List.length_append];omega)) _).trans ?_
  rw[WE]
  have sl:Jm P 182 (.lst 68 f (parts (p::L'))) (some (.int .i64 1)) none none=some (.lst 68 f.cut (parts L')):=by
   have e1:(1:Int)≤((parts L').length:Int)+1:=by omega
   simp[Jm,PV,Bv,parts,e1]
   constructor
   ·omega
   ·rw[List.take_of_length_le (by simp)]
  refine(AB sl _).trans ?_
  refine(ACF Ny _).trans ?_
  have:=AIF fs L' (by simp at hL;omega) f.cut (flat (p::L')).length hN h0 L'.length 0 p.2 (by omega) (by rw[Jt,List.length_append];rfl)
  simp only[List.drop_zero]at this
  rw[←Jt]at this
  refine Eq.trans ?_ this
  simp only[parts,List.length_map,Ap,List.length_nil,List.nil_append,List.take_zero,Nat.zero_add,List.drop_replicate]
  rfl
 |succ n ih=>
  intro i acc hi hn
  have hlt:i<L.length:=by omega
  have hd:flat (L.drop i)=L[i].2++flat (L.drop (i+1)):=by rw[List.drop_eq_getElem_cons hlt,Jt]
  rw[hd,List.length_append]at hn
  rw[O3,Oy,Jr (by omega),BP,V7]
  refine(AID PV (SG hlt) _).trans<|(AIE _).trans ?_
  obtain⟨g,hg⟩:=JE L[i]
  rw[hg,V8]
  refine SE _ |>.trans ?_
  refine(AB (PW _ _ _) _).trans ?_
  rw[wrap_i64 (by omega) (by omega)]
  refine(AB (b_gtr _ _ _) _).trans ?_
  rw[decide_eq_false (by omega),BQ,V9]
  refine ANv _ |>.trans ?_
  refine(Ll (by omega) _).trans ?_
  rw[WA]
  refine(Ll (b:=1) (by omega) _).trans ?_
  exact ih (i+1) (acc+L[i].2.length) (by omega) (by omega)
theorem AIJ (fs:Fl) (L:List (Fl×List UInt8)) (hL:L.length<2147483648) (f:Fl) (hN:(flat L).length<2147483648) (h0:0<(flat L).length):
 Cl 135 [.lst 68 f (parts L),.lst 5 fs []] []=some (bL .own (flat L),[]):=by
 have hL0:0<L.length:=by
  cases L with
  |nil=>cases h0
  |cons=>simp
 have lp:(parts L).length=L.length:=by simp[parts]
 rw[AHr,AAs,AAt]
 refine(Yo Ny _).trans ?_
 rw[lp]
 refine(AB (b_eql _ _ _) _).trans ?_
 rw[decide_eq_false (by omega),BQ,AAu]
 refine(Yo Ny _).trans ?_
 rw[lp]
 refine(AB (b_eql _ _ _) _).trans ?_
 by_cases h1:L.length=1
 ·rw[decide_eq_true (by omega),BP,AAv]
  match L,h1 with
  |[p],_=>
   refine(ACG (i:=0) (v:=part p) PV rfl _).trans<|(AIE _).trans ?_
   obtain⟨g,hg⟩:=JE p
   have e:flat [p]=p.2:=by simp[flat]
   rw[e]at hN h0⊢
   rw[hg]
   have a:=ANw (f:= .nil) (h:=[]) (l:=[]) (m:=p.2) (g:=g) (Or.inr rfl) (by simp;omega) (fun _=>by cases hp:p.2 with|nil=>rw[hp]at h0;simp at h0|cons=>rfl)
   refine(AB a _).trans ?_
   refine(AB (show Dz [] (bL .own ([]++p.2))=some (.win 0 [] 0 p.2.length 5,[.row 5 (bytesOf p.2)])by simp[Dz,bL,Ap]) _).trans ?_
   have c:Ah [V.row 5 (bytesOf p.2)] (.win 0 [] 0 p.2.length 5)=some (bytesOf p.2):=by
    simp[Ah,rd,V.at,V.items,Ap]
    rw[List.take_of_length_le (by simp[Ap])]
   simp[NT,c,CG,FX,bL,Nat.ble,Nat.blt,Nat.ble_eq]
   exact List.ne_nil_of_length_pos h0
 ·rw[decide_eq_false (by omega),BQ,AAw,AAx]
  refine(Yo PU _).trans ?_
  refine(AB (b_gtr _ _ _) _).trans ?_
  simp only[jn,List.length_nil]
  rw[decide_eq_false (by omega),BQ,V6]
  refine(Yo Ny _).trans ?_
  rw[lp]
  exact AII fs L hL hL0 f hN h0 L.length 0 0 (by omega) (by simp)
end
section
open Go AM
def Yq (n:Nat):Nat:=(120-n%64)%64
def lb (n i:Nat):UInt8:=UInt8.ofNat (n/2^(56-8*i)%256)
def Ph (n:Nat):Nat→Nat→List UInt8
 |0,_=>[]
 |k+1,i=>lb n i::Ph n k (i+1)
def AFV (l:List UInt8):List UInt8:=(l++[128])++List.replicate (Yq (l.length+1)) 0++Ph (8*l.length) 8 0
def blocks:Nat→List Nat→List UInt8→List Nat
 |0,h,_=>h
 |n+1,h,p=>blocks n (Wn h (p.take 64)) (p.drop 64)
def dg (st:List Nat) (i:Nat):UInt8:=UInt8.ofNat (st.getD (i/4) 0/2^(24-8*(i%4))%256)
def MS (st:List Nat):Nat→Nat→List UInt8→List UInt8
 |0,_,w=>w
 |n+1,i,w=>MS st n (i+1) (w.set i (dg st i))
def IK:List Nat:=(match RF with|V.agg _ l=>l|_=>[]).map fun v=>match v with|V.int _ n=>n.toNat|_=>0
def ANx (l:List UInt8):List Nat:=blocks ((AFV l).length/64) IK (AFV l)
def sha (l:List UInt8):List UInt8:=MS (ANx l) 32 0 (List.replicate 32 0)
def Au (l:List UInt8):V:= .agg 54 (bytesOf l)
theorem AIK:RF=A8 IK:=by kernel_rfl
theorem ANy:IK.length=8:=by kernel_rfl
theorem ANz:B32 IK:=by
 have h:IK.all (fun x=>decide (x<4294967296))=true:=by kernel_rfl
 intro x hx
 have:=List.all_eq_true.1 h x hx
 exact of_decide_eq_true this
theorem Ws {h:List Nat} (p:List UInt8) (bh:B32 h) (hh:h.length=8):B32 (Wn h p)∧(Wn h p).length=8:=ABH _ _ _ bh hh
theorem SH (st:List Nat):∀(n i:Nat) (w:List UInt8),(MS st n i w).length=w.length
 |0,_,_=>rfl
 |n+1,i,w=>by rw[MS,SH st n];simp
theorem OB (l:List UInt8):(sha l).length=32:=by rw[sha,SH];rfl
theorem ACH (l:List UInt8) (i:Nat) (x:UInt8):(bytesOf l).set i (.int .u8 (x.toNat:Int))=bytesOf (l.set i x):=by
 simp[bytesOf,List.map_set]
theorem AN0 (x:Nat) (hx:x<256):(V.int .u8 (x:Int))= .int .u8 ((UInt8.ofNat x).toNat:Int):=by
 simp[Nat.mod_eq_of_lt hx]
theorem MV (n:Nat):∀l:List UInt8,Ae n (bytesOf l)=true
 |[]=>rfl
 |x::l=>by simp only[bytesOf,List.map_cons,Ae];rw[show List.map _ l=bytesOf l from rfl,MV n l];rfl
theorem Pj (n:Nat):∀l:List UInt8,DU n (bytesOf l)=true
 |[]=>rfl
 |x::l=>by simp only[bytesOf,List.map_cons,DU];rw[show List.map _ l=bytesOf l from rfl,Pj n l];rfl
theorem MW (h:List V):∀l:List UInt8,CY h (bytesOf l)=bytesOf l
 |[]=>rfl
 |x::l=>by simp only[bytesOf,List.map_cons,CY];rw[show List.map _ l=bytesOf l from rfl,MW h l];rfl
theorem MX (h:List V):∀l:List UInt8,AL h (bytesOf l)=bytesOf l
 |[]=>rfl
 |x::l=>by simp only[bytesOf,List.map_cons,AL];rw[show List.map _ l=bytesOf l from rfl,MX h l];rfl
theorem SI (h:List V):∀l:List Nat,AL h (KP l)=KP l
 |[]=>rfl
 |x::l=>by simp only[KP,List.map_cons,AL];rw[show List.map vw l=KP l from rfl,SI h l];rfl
theorem AFW (h:List V) (l:List Nat):V.reify h (A8 l)=A8 l:=by simp only[A8,V.reify,SI]
theorem Wu (h:List V) (f:Fl) (l:List UInt8):∃g,V.reify h (bL f l)=bL g l:=by
 cases f<;>simp only[bL,V.reify,MX]<;>exact⟨_,rfl⟩
theorem U0 (n:Nat) (h:List V) (l:List UInt8):AV n h (Au l)=some (Au l,h.take n):=by
 simp only[AV,Au,V.unmut,MW,V.norm,FX,V.clean,CG,V.over,Pj,Bool.and_self,if_true]
theorem AIL:zero P 55=Au (List.replicate 32 0):=by rw[ANj];rfl
theorem ABK (l:List UInt8):BN P 55 (Au l)=true:=by simp[BN,AHv,Au]
theorem ABL (n:Nat) (l:List UInt8):(Au l).under n=true:=by simp only[Au,V.under];exact MV _ _
theorem AN1 (l:List Nat):BN P 184 (A8 l)=true:=by simp[BN,MR,A8]
theorem AN2 (n:Nat) (l:List Nat):(A8 l).under n=true:=by simp only[A8,V.under];exact FI _ _
theorem AQa {id i:Nat} (hi:i<32):Ag P 55 (.ref id [] 55) (.int .i64 (i:Int))=some (.ref id [i] 5):=by
 have:inside (i:Int) 32=true:=by simp[inside];omega
 simp[Ag,AHv,this]
theorem AQb {h:List V} {id i x:Nat} {l:List UInt8} (hh:h[id]?=some (Au l)) (hi:i<l.length) (hx:x<256):Ec P h 5 (.ref id [i] 5) (.int .u8 (x:Int))=some (h.set id (Au (l.set i (UInt8.ofNat x)))):=by
 rw[G9 hh (Rz hi) (Uz _) rfl,AN0 x hx,ACH];rfl
theorem ALq {h:List V} {st:List Nat} {w:List UInt8} {i:Nat} (hs:h[1]?=some (A8 st)) (hst:st.length=8) (hw:h[2]?=some (Au w)) (lw:w.length=32) (hi:i<32) (K:List V→Option (V×List V)):
 Oq (.ref 1 [] 184) (.ref 2 [] 55) (.int .i64 (i:Int)) h K=K (h.set 2 (Au (w.set i (dg st i)))):=by
 unfold Oq
 refine(AB (AFC _ _ _ (by omega)) _).trans ?_
 rw[show(i:Int).tdiv 4=((i/4:Nat):Int)by rfl,wrap_i64 (by omega) (by omega)]
 refine(at8 hs hst (i/4) (by omega) _).trans ?_
 refine(AB (WY _ _ _ (by omega)) _).trans ?_
 rw[show(i:Int).tmod 4=((i%4:Nat):Int)by rfl]
 refine(AH7 (a:=8) (by omega) _).trans<|(NV (a:=24) (by omega) (by omega) _).trans ?_
 refine(AB (Ba Nw ..) _).trans ?_
 rw[wrap_u64 (by omega) (by omega)]
 refine(AB (N9 _ (by omega)) _).trans ?_
 refine(AB (Ba PO ..) _).trans ?_
 rw[II]
 refine(AB (AQa hi) _).trans ?_
 exact AB (AQb hw (by omega) (Nat.mod_lt _ (by decide))) _
theorem AN3 {st:List Nat} (hst:st.length=8) (z:List UInt8):∀(n i:Nat) (w:List UInt8),i+n=32→w.length=32→
 Nk (.ref 0 [] 55) (.ref 1 [] 184) (.ref 2 [] 55) (.int .i64 (i:Int)) [Au z,A8 st,Au w]=some (Au (MS st n i w),[]):=by
 intro n
 induction n with
 |zero=>
  intro i w hi hw
  rw[Ot,Oo,Js (by omega),BQ,V5]
  refine(AB (BR (v:=Au w) (Cm rfl)) _).trans ?_
  refine(AB (Ce (w:=Au z) rfl (ABK _) (ABL _ _)) _).trans ?_
  refine(AB (BR (v:=Au w) (Cm rfl)) _).trans ?_
  exact U0 _ _ _
 |succ n ih=>
  intro i w hi hw
  rw[Ot,Oo,Jr (by omega),BP,V3,ALq rfl hst rfl hw (by omega),V4]
  refine(Ll (b:=1) (by omega) _).trans ?_
  exact ih (i+1) _ (by omega) (by simp[hw])
theorem AN4:∀(n:Nat) (f:Fl) (p:List UInt8) (st:List Nat),p.length=64*n→p.length<2147483648→B32 st→st.length=8→
 Nj (.ref 0 [] 55) (bL f p) (.ref 1 [] 184) [Au (List.replicate 32 0),A8 st]=some (Au (MS (blocks n st p) 32 0 (List.replicate 32 0)),[]):=by
 intro n
 induction n with
 |zero=>
  intro f p st hp hlt bs hst
  rw[Ou,Om]
  refine SE _ |>.trans ?_
  refine(AB (b_gtr _ _ _) _).trans ?_
  rw[decide_eq_false (by omega),BQ,Vy,Vz,AIL]
  exact AN3 hst _ 32 0 _ rfl rfl
 |succ n ih=>
  intro f p st hp hlt bs hst
  rw[Ou,Om]
  refine SE _ |>.trans ?_
  refine(AB (b_gtr _ _ _) _).trans ?_
  rw[decide_eq_true (by omega),BP,Vw]
  refine(AB (BR (v:=A8 st) (Cm rfl)) _).trans ?_
  have sl:Jm P 68 (V.weak (bL f p)) none (some (.int .i64 64)) none=some (bL f.cut (p.take 64)):=by
   have:=ANu (f:=f) (t:=5) (xs:=bytesOf p) H6 (a:=0) (b:=64) (by omega) (by rw[Ap];omega)
   rw[List.drop_zero,bytesOf_take]at this
   rw[bL,bL,←this]
   obtain⟨g,hg⟩:=IJ (e:=5) (f:=f) (xs:=bytesOf p)
   rw[hg]
   have e1:(64:Int)≤p.length:=by omega
   simp[Jm,H6,Bv,Ap,e1]
  refine(AB sl _).trans ?_
  obtain⟨g,hg⟩:=Wu [Au (List.replicate 32 0),A8 st] f.cut (p.take 64)
  have e:AL [Au (List.replicate 32 0),A8 st] [A8 st,bL f.cut (p.take 64)]=[A8 st,bL g (p.take 64)]:=by
   simp only[AL,AFW,hg]
  rw[e]
  refine(AB (AIC hst bs (by rw[List.length_take];omega) g) _).trans ?_
  refine(AB (Ce (w:=A8 st) rfl (AN1 _) (AN2 _ _)) _).trans ?_
  rw[Vx]
  have sl2:Jm P 68 (bL f p) (some (.int .i64 64)) none none=some (bL f.cut (p.drop 64)):=by
   have e1:(64:Int)≤p.length:=by omega
   simp[Jm,bL,H6,Bv,Ap,e1,bytesOf_drop]
   rw[List.take_of_length_le (by rw[Ap];omega),bytesOf_drop]
  refine(AB sl2 _).trans ?_
  exact ih f.cut (p.drop 64) (Wn st (p.take 64)) (by rw[List.length_drop];omega) (by rw[List.length_drop];omega) (Ws _ bs hst).1 (Ws _ bs hst).2
theorem AN5 (N:Nat) (hN:N<2147483648):∀(n i:Nat) (p:List UInt8),i+n=8→(p.length+n)%64=0→p.length<2147483000→
 Nh (.ref 0 [] 55) (bL .own p) (.int .u64 ((8*N:Nat):Int)) (.int .i64 (i:Int)) [Au (List.replicate 32 0)]=
  some (Au (MS (blocks ((p++Ph (8*N) n i).length/64) IK (p++Ph (8*N) n i)) 32 0 (List.replicate 32 0)),[]):=by
 intro n
 induction n with
 |zero=>
  intro i p hi hp hl
  rw[Ov,Uk,Js (by omega),BQ,Vu,AIK]
  refine(AB KJ _).trans ?_
  refine(AB (Ce (w:=zero P 184) rfl (AN1 _) (AN2 _ _)) _).trans ?_
  simp only[Ph,List.append_nil]
  exact AN4 (p.length/64) .own p IK (by omega) (by omega) ANz ANy
 |succ n ih=>
  intro i p hi hp hl
  rw[Ov,Uk,Jr (by omega),BP,AAj,AAk]
  refine(AH7 (a:=8) (by omega) _).trans<|(NV (a:=56) (by omega) (by omega) _).trans ?_
  refine(AB (Ba Nw ..) _).trans ?_
  rw[wrap_u64 (by omega) (by omega)]
  have hs:AO .shr (.int .u64 ((8*N:Nat):Int)) (.int .u64 ((56-8*i:Nat):Int))=some (.int .u64 ((8*N/2^(56-8*i):Nat):Int)):=by
   rw[Rx _ _ _ _ (by omega)]
   have:min (((56-8*i:Nat):Int)).toNat (IntKind.u64).bits=56-8*i:=by simp[IntKind.bits];omega
   rw[this,Pe]
  refine(AB hs _).trans ?_
  refine(AB (Ba PO ..) _).trans ?_
  rw[II]
  refine(app1 (Or.inl rfl) (by omega) _ (Nat.mod_lt _ (by decide)) _).trans ?_
  rw[Vt]
  refine(Ll (b:=1) (by omega) _).trans ?_
  have:=ih (i+1) (p++[lb (8*N) i]) (by omega) (by simp;omega) (by simp;omega)
  rw[List.append_assoc,List.singleton_append]at this
  exact this
theorem AN6 (N:Nat) (hN:N<2147483648):∀(n:Nat) (p:List UInt8),Yq p.length=n→p.length+n<2147482000→
 Nc (.ref 0 [] 55) (bL .own p) (.int .u64 ((8*N:Nat):Int)) [Au (List.replicate 32 0)]=
  some (Au (MS (blocks ((p++List.replicate n 0++Ph (8*N) 8 0).length/64) IK (p++List.replicate n 0++Ph (8*N) 8 0)) 32 0 (List.replicate 32 0)),[]):=by
 intro n
 induction n with
 |zero=>
  intro p hp hl
  rw[Ox,Uj]
  refine SE _ |>.trans ?_
  refine(AB (WY _ _ _ (by omega)) _).trans ?_
  rw[show(p.length:Int).tmod 64=((p.length%64:Nat):Int)by rfl]
  refine(AB (b_neq _ _ _) _).trans ?_
  simp only[Yq]at hp
  rw[decide_eq_false (by omega),BQ,AAi,List.replicate_zero,List.append_nil]
  exact AN5 N hN 8 0 p rfl (by omega) (by omega)
 |succ n ih=>
  intro p hp hl
  rw[Ox,Uj]
  refine SE _ |>.trans ?_
  refine(AB (WY _ _ _ (by omega)) _).trans ?_
  rw[show(p.length:Int).tmod 64=((p.length%64:Nat):Int)by rfl]
  refine(AB (b_neq _ _ _) _).trans ?_
  simp only[Yq]at hp
  rw[decide_eq_true (by omega),BP,AAh]
  refine(app1 (Or.inl rfl) (by omega) 0 (by omega) _).trans ?_
  have:=ih (p++[0]) (by simp only[Yq,List.length_append,List.length_cons,List.length_nil];omega) (by simp;omega)
  rw[List.append_assoc p [0],List.singleton_append]at this
  exact this
theorem Yr (h:List V) (p:Fl×List UInt8):∃g,V.reify h (part p)=part (g,p.2):=Wu h p.1 p.2
theorem KQ (h:List V):∀L:List (Fl×List UInt8),∃L',AL h (parts L)=parts L'∧flat L'=flat L∧L'.length=L.length
 |[]=>⟨[],rfl,rfl,rfl⟩
 |p::L=>by
  obtain⟨L',e1,e2,e3⟩:=KQ h L
  obtain⟨g,hg⟩:=Yr h p
  refine⟨(g,p.2)::L',?_,?_,by simp[e3]⟩
  ·simp only[parts,List.map_cons,AL,hg];exact congrArg _ e1
  ·rw[Jt,Jt,e2]
theorem MZ (h:List V) (f:Fl) (L:List (Fl×List UInt8)):∃f' L',V.reify h (.lst 68 f (parts L))= .lst 68 f' (parts L')∧flat L'=flat L∧L'.length=L.length:=by
 obtain⟨L',e1,e2,e3⟩:=KQ h L
 cases f
 case lent=>exact⟨.lent,L',by simp only[V.reify,e1],e2,e3⟩
 all_goals exact⟨.sh,L,rfl,rfl,rfl⟩
theorem ABM (L:List (Fl×List UInt8)) (hL:L.length<2147483648) (f:Fl) (hN:(flat L).length<2147480000) (h0:0<(flat L).length):
 Cl 117 [.lst 68 f (parts L)] []=some (Au (sha (flat L)),[]):=by
 obtain⟨f',L',e1,e2,e3⟩:=MZ [Au (List.replicate 32 0)] f L
 have er:AL [Au (List.replicate 32 0)] [.lst 68 f (parts L),.lst 5 .nil []]=[.lst 68 f' (parts L'),.lst 5 .sh []]:=by
  simp only[AL,e1];rfl
 rw[AHh,AAd,AAe,AIL]
 simp only[List.nil_append]
 rw[er]
 refine(AB (AIJ .sh L' (by omega) f' (by rw[e2];omega) (by rw[e2];exact h0)) _).trans ?_
 rw[e2,AAf]
 refine SE _ |>.trans ?_
 refine(AB (Ba GZ ..) _).trans ?_
 rw[wrap_u64 (by omega) (by omega)]
 refine(AB (Rw _ _ _) _).trans ?_
 rw[wrap_u64 (by omega) (by omega),show((flat L).length:Int)*8=((8*(flat L).length:Nat):Int)by omega,AAg]
 refine(app1 (Or.inl rfl) (by omega) 128 (by omega) _).trans ?_
 have z:Yq ((flat L).length+1)<64:=Nat.mod_lt _ (by decide)
 exact AN6 (flat L).length (by omega) (Yq ((flat L).length+1)) (flat L++[128]) (by simp) (by simp;omega)
end
section
open Go AM
end
section
open Go AM
def uw (n:Nat):V:= .int .u64 (n:Int)
def uws (l:List Nat):List V:=l.map uw
theorem AN7 {B:Type} {a b:Nat} (h:a+b<18446744073709551616) (K:V→Option B):(AO .add (.int .u64 (a:Int)) (.int .u64 (b:Int))).bind K=K (.int .u64 ((a+b:Nat):Int)):=by
 rw[DR,show(a:Int)+(b:Int)=((a+b:Nat):Int)by omega,wrap_u64 (by omega) (by omega)];rfl
theorem AQc {B:Type} {k:IntKind} {a b:Int} (h:a=b) (K:V→Option B):(AO .eql (.int k a) (.int k b)).bind K=K (.bool true):=by
 rw[b_eql,Option.bind_some,decide_eq_true h]
theorem AQd {B:Type} {k:IntKind} {a b:Int} (h:¬a=b) (K:V→Option B):(AO .eql (.int k a) (.int k b)).bind K=K (.bool false):=by
 rw[b_eql,Option.bind_some,decide_eq_false h]
theorem ACI {B:Type} {k:IntKind} {a b:Int} (h:a≠b) (K:V→Option B):(AO .neq (.int k a) (.int k b)).bind K=K (.bool true):=by
 rw[b_neq,Option.bind_some,decide_eq_true h]
theorem ACJ {B:Type} {k:IntKind} {a b:Int} (h:¬a≠b) (K:V→Option B):(AO .neq (.int k a) (.int k b)).bind K=K (.bool false):=by
 rw[b_neq,Option.bind_some,decide_eq_false h]
theorem AN8 {B:Type} {k:IntKind} {a b:Int} (h:b≤a) (K:V→Option B):(AO .geq (.int k a) (.int k b)).bind K=K (.bool true):=by
 rw[b_geq,Option.bind_some,decide_eq_true h]
theorem AN9 {B:Type} {k:IntKind} {a b:Int} (h:¬b≤a) (K:V→Option B):(AO .geq (.int k a) (.int k b)).bind K=K (.bool false):=by
 rw[b_geq,Option.bind_some,decide_eq_false h]
end
section
open Go AM
def box (st:List Nat):List V:=[.row 93 (uws st)]
end
section
open Go AM
end
section
open Go AM
theorem Yt (l:List UInt8):Eb (bytesOf l)=some l:=by
 induction l with
 |nil=>rfl
 |cons x l ih=>
  have:bytesOf (x::l)= .int .u8 (x.toNat:Int)::bytesOf l:=rfl
  rw[this]
  simp only[Eb,AM.byteOf,ih]
  simp
theorem cv8 {B:Type} {h:List V} {x:Nat} (K:V→Option B):(conv P h 93 5 (.int .u64 (x:Int))).bind K=K (.int .u8 ((x%256:Nat):Int)):=by
 refine(AB (Ba PO ..) _).trans ?_
 rw[II]
theorem AJ1 {B:Type} {h:List V} {s:List UInt8} (hs:s.length≤2147483648) (K:V→Option B):(conv P h 9 68 (.str s)).bind K=K (bL .own s):=
 AB (by simp[conv,PU,PO,Dh,hs,bL]) K
end
section
open Go AM
theorem OC:∀(cs:List UInt8) (k v:Nat),k≤9→v<128^k→(D5 k v cs).1<18446744073709551616
 |[],k,v,_,_=>by simp[D5]
 |c::cs,k,v,h9,hv=>by
  have hc:c.toNat<256:=c.toNat_lt
  have e:128^k=2^(7*k):=by rw[Nat.pow_mul]
  simp only[D5]
  split
  ·simp
  ·rename_i hb
   have hm:c.toNat%128<128:=Nat.mod_lt _ (by omega)
   split
   ·by_cases h:k=9
    ·have hm1:c.toNat%128≤1:=by omega
     subst h
     have:c.toNat%128*128^9≤1*128^9:=Nat.mul_le_mul_right _ hm1
     simp only;omega
    ·have hp:128^k≤2^56:=by rw[e];exact Nat.pow_le_pow_right (by omega) (by omega)
     have:c.toNat%128*128^k≤127*2^56:=Nat.mul_le_mul (by omega) hp
     simp only;omega
   ·rename_i h128
    refine OC cs (k+1) _ (by omega) ?_
    have:c.toNat%128*128^k≤127*128^k:=Nat.mul_le_mul_right _ (by omega)
    rw[Nat.pow_succ];omega
def GL (m:Nat) (s:List UInt8):Nat×Nat×List UInt8:=
 let r:=D5 0 0 s
 if r.2.2≠0 then(0,r.2.2,[])else if m<r.1 then(0,22,[])else if s.length-r.2.1<r.1 then(0,20,[])else(r.2.1+r.1,0,(s.drop r.2.1).take r.1)
theorem AFX (m:Nat) (s:List UInt8):(GL m s).1≤s.length:=by
 have:=N8 s 0 0
 simp only[GL]
 split
 ·simp
 ·split
  ·simp
  ·split
   ·simp
   ·simp only;omega
theorem JF (h h':List V) (a b:Int) (hl:h'.length=h.length):AV h.length h' (.tup [.int .i64 a,.int .i64 b])=some (.tup [.int .i64 a,.int .i64 b],h'):=by
 simp[AV,V.unmut,CY,V.norm,AP,V.clean,AY,V.over,DU,←hl]
theorem AFY {h:List V} {s:List UInt8} (hl:s.length<4611686018427387904) (m:Nat) (hm:m<4611686018427387904):
 Reads (.clo 109 [.ref h.length [] 3,.ref (h.length+1) [] 9]) (h++[.int .i64 (m:Int),.str []]) s (GL m s).1 (GL m s).2.1 (h++[.int .i64 (m:Int),.str (GL m s).2.2]):=by
 intro k
 rw[Gn k (by kernel_rfl) (by kernel_rfl)]
 have e1:AP ([V.str s]++[V.ref h.length [] 3,V.ref (h.length+1) [] 9])=[V.str s,V.ref h.length [] 3,V.ref (h.length+1) [] 9]:=rfl
 have g0:∀x,(h++[V.int .i64 (m:Int),x])[h.length]?=some (V.int .i64 (m:Int)):=by intro x;simp
 have g1:∀x,(h++[V.int .i64 (m:Int),x])[h.length+1]?=some x:=by
  intro x;rw[List.getElem?_append_right (by omega)];simp
 have l0:∀x,Aa (h++[V.int .i64 (m:Int),x]) 3 (.ref h.length [] 3)=some (.int .i64 (m:Int)):=fun x=>BR (Cm (g0 x))
 have s1:∀y:List UInt8,Ec P (h++[V.int .i64 (m:Int),V.str []]) 9 (.ref (h.length+1) [] 9) (.str y)=some (h++[V.int .i64 (m:Int),V.str y]):=by
  intro y
  rw[Ce (g1 _) (by simp[BN,K_9,BO,GH]) rfl,List.set_append_right _ _ (by omega)]
  simp
 have hn:=OC s 0 0 (by omega) (by decide)
 have hk:=N8 s 0 0
 rw[e1,AHb]
 have e2:∀h,AL h [V.str s]=[V.str s]:=fun h=>rfl
 generalize hr:D5 0 0 s=r at hn hk
 obtain⟨n,q,e⟩:=r
 simp only at hn hk
 have htl:GL m s=if e≠0 then(0,e,[])else if m<n then(0,22,[])else if s.length-q<n then(0,20,[])else(q+n,0,(s.drop q).take n):=by simp only[GL,hr]
 simp only[AAP,AAQ,AAR,AAS,AAT,AAU,AAV,AAW,e2,Ry s hl,hr,AFH,Option.bind_some,ext,List.getElem?_cons_zero,List.getElem?_cons_succ,
  b_neq,FT,l0,b_lss,List.all_cons,List.all_nil,V.okE,Bool.and_self,if_true]
 by_cases he:e=0
 ·subst he
  have hm0:¬((m:Int)<0):=by omega
  simp only[Int.natCast_zero,ne_eq,not_true_eq_false,if_false,hm0,Ba GZ,wrap_u64 (show(0:Int)≤(m:Int)by omega) (show(m:Int)<18446744073709551616 by omega),Option.bind_some,b_gtr,FT,Int.ofNat_lt]
  by_cases h1:m<n
  ·simp only[h1,if_true,htl,ne_eq,not_true_eq_false,if_false]
   rw[JF _ _ _ _ (by simp)];rfl
  ·have hcast:((s.length:Int)-(q:Int))=((s.length-q:Nat):Int):=by omega
   simp only[h1,if_false,ABE GH,Option.bind_some,PW,hcast]
   rw[wrap_i64 (by omega) (by omega)]
   simp only[Ba GZ,Option.bind_some]
   rw[wrap_u64 (by omega) (by omega)]
   simp only[b_gtr,Option.bind_some,FT,Int.ofNat_lt]
   by_cases h2:s.length-q<n
   ·simp only[h2,if_true,htl,h1,ne_eq,not_true_eq_false,if_false]
    rw[JF _ _ _ _ (by simp)];rfl
   ·have hsum:((q:Int)+(n:Int))=((q+n:Nat):Int):=by omega
    have hsl:Jm P 9 (.str s) (some (.int .i64 (q:Int))) (some (.int .i64 ((q+n:Nat):Int))) none=some (.str ((s.drop q).take n)):=by
     have b1:((q+n:Nat):Int)≤(s.length:Int):=by omega
     have b2:(q:Int)≤((q+n:Nat):Int):=by omega
     simp only[Jm,Zg,GH,Option.isNone_none,Bool.and_self,if_true,Bv,Option.bind_some]
     rw[if_pos ⟨by omega,b1⟩]
     simp only[Option.bind_some]
     rw[if_pos ⟨by omega,b2⟩]
     simp only[Option.map_some,Int.toNat_natCast,Option.some.injEq,V.str.injEq]
     rw[List.drop_take,Nat.add_sub_cancel_left]
    have hq2:q+n≤s.length:=by omega
    simp only[h2,if_false,AAX,AAY,Ba FB,Option.bind_some]
    rw[wrap_i64 (show -9223372036854775808≤(n:Int)by omega) (by omega)]
    simp only[DR,Option.bind_some,hsum]
    rw[wrap_i64 (by omega) (by omega)]
    rw[hsl,Option.bind_some,s1,Option.bind_some]
    simp only[htl,h1,h2,ne_eq,not_true_eq_false,if_false]
    rw[JF _ _ _ _ (by simp)];rfl
 ·have:¬((e:Int)=0):=by omega
  simp only[this,ne_eq,not_false_eq_true,if_true,htl,he]
  rw[JF _ _ _ _ (by simp)];rfl
def textIn (m:Nat) (s:List UInt8) (e:Nat):List UInt8×List UInt8×Nat:=
 if e≠0 then([],s,e)else let r:=GL m s;(r.2.2,if r.2.1=0 then s.drop r.1 else s,r.2.1)
theorem U1 {h:List V} {id:Nat} {s:List UInt8} {e:Nat} (m:Nat) (hm:m<4611686018427387904) (hh:h[id]?=some (BG s e)) (hl:s.length<4611686018427387904):
 Cl 83 [CQ id,.int .i64 (m:Int)] h=some (.str (textIn m s e).1,h.set id (BG (textIn m s e).2.1 (textIn m s e).2.2)):=by
 have hid:=HY hh
 have t0:BN P 3 (.int .i64 (m:Int))=true:=by simp[BN,K_3,BO,FB]
 have e0:h++[V.int .i64 (m:Int)]++[zero P 9]=h++[V.int .i64 (m:Int),zero P 9]:=by simp
 have g1:∀(g:List V) (x y:V),g.length=h.length→(g++[x,y])[h.length+1]?=some y:=by
  intro g x y hg;rw[List.getElem?_append_right (by omega)];simp[hg]
 have len1:(h++[V.int .i64 (m:Int)]).length=h.length+1:=by simp
 have s0:Ec P (h++[V.int .i64 (m:Int),zero P 9]) 9 (.ref (h.length+1) [] 9) (.str [])=some (h++[V.int .i64 (m:Int),V.str []]):=by
  rw[Ce (g1 h _ _ rfl) (by simp[BN,K_9,BO,GH]) rfl,List.set_append_right _ _ (by omega)]
  simp
 have hh1:∀x y:V,(h++[x,y])[id]?=some (BG s e):=fun x y=>JB _ hh
 rw[ALH]
 simp only[AEl,AEm,AEn,AEo,t0,V.under,Bool.and_self,if_true,len1,e0,s0,Option.bind_some]
 have cap:List.all [V.ref h.length [] 3,V.ref (h.length+1) [] 9] V.capOk=true:=rfl
 simp only[cap,if_true,Option.bind_some]
 have e1:AP [CQ id,V.clo 109 [V.ref h.length [] 3,V.ref (h.length+1) [] 9]]=[CQ id,V.clo 109 [V.ref h.length [] 3,V.ref (h.length+1) [] 9]]:=rfl
 rw[e1]
 have e5:∀(g:List V) (y:List UInt8),g.length=h.length→Aa (g++[V.int .i64 (m:Int),V.str y]) 9 (.ref (h.length+1) [] 9)=some (.str y):=fun g y hg=>BR (Cm (g1 g _ _ hg))
 by_cases he:e=0
 ·subst he
  rw[Ut (hh1 _ _) (AFY hl m hm) (hh1 _ _) (AFX m s)]
  simp only[Option.bind_some]
  rw[Nz _ _ hid]
  have e4:∀y:V,(h.set id y++[V.int .i64 (m:Int),V.str (GL m s).2.2]).take (h++[V.int .i64 (m:Int),V.str []]).length=h.set id y++[V.int .i64 (m:Int),V.str (GL m s).2.2]:=by
   intro y
   rw[show(h++[V.int .i64 (m:Int),V.str []]).length=(h.set id y++[V.int .i64 (m:Int),V.str (GL m s).2.2]).length by simp,take_len]
  rw[e4,e5 _ _ (by simp),Option.bind_some,N7,take_set]
  simp only[textIn,ne_eq,not_true_eq_false,if_false]
  by_cases h2:(GL m s).2.1=0<;>simp[h2]
 ·rw[PY (hh1 _ _) he]
  simp only[Option.bind_some]
  rw[e5 h _ rfl,Option.bind_some,N7,Wi]
  simp only[textIn,he,ne_eq,not_false_eq_true,if_true]
  rw[KN hh]
def zz (n:Nat):Int:=if n%2=0 then((n/2:Nat):Int)else -1-((n/2:Nat):Int)
theorem AFZ {a:Nat} (ha:a<9223372036854775808):AO .xor (.int .i64 (a:Int)) (.int .i64 0)=some (.int .i64 (a:Int)):=by
 rw[ABD]
 have e:(BitVec.ofInt (IntKind.i64).bits (a:Int) ^^^ BitVec.ofInt (IntKind.i64).bits 0).toNat=a:=by
  have:BitVec.ofInt (IntKind.i64).bits 0=0#64:=rfl
  rw[this,BV]
  show(BitVec.ofNat 64 a ^^^ 0#64).toNat=a
  rw[BitVec.xor_zero,BitVec.toNat_ofNat,Nat.mod_eq_of_lt (by omega)]
 rw[e,wrap_i64 (by omega) (by omega)]
theorem AFa {a:Nat} (ha:a<9223372036854775808):AO .xor (.int .i64 (a:Int)) (.int .i64 (-1))=some (.int .i64 (-1-(a:Int))):=by
 rw[ABD]
 have e:(BitVec.ofInt (IntKind.i64).bits (a:Int) ^^^ BitVec.ofInt (IntKind.i64).bits (-1)).toNat=18446744073709551615-a:=by
  have:BitVec.ofInt (IntKind.i64).bits (-1)=BitVec.allOnes 64:=rfl
  rw[this,BV]
  show(BitVec.ofNat 64 a ^^^ BitVec.allOnes 64).toNat=_
  rw[BitVec.xor_allOnes,BitVec.toNat_not,BitVec.toNat_ofNat,Nat.mod_eq_of_lt (by omega)]
 have e2:((18446744073709551615-a:Nat):Int)=18446744073709551615-(a:Int):=by omega
 have e3:IntKind.wrap .i64 (18446744073709551615-(a:Int))= -1-(a:Int):=by rw[Go.IntKind.wrap_i64];omega
 rw[e,e2,e3]
theorem ALr {h:List V} {id:Nat} {s:List UInt8} {e:Nat} (hh:h[id]?=some (BG s e)) (hl:s.length<4611686018427387904):
 Cl 131 [CQ id] h=some (.int .i64 (zz (AU s e).1),h.set id (BG (AU s e).2.1 (AU s e).2.2)):=by
 have hn:(AU s e).1<18446744073709551616:=by
  simp only[AU]
  split
  ·simp
  ·exact OC s 0 0 (by omega) (by decide)
 rw[AHn]
 have e1:AP [CQ id]=[CQ id]:=rfl
 simp only[AAp,AAq,AAr,e1,He hh hl,Option.bind_some]
 generalize (AU s e).1=n at hn
 rw[Rx _ _ _ _ (by omega)]
 have hs:Int.fdiv (n:Int) (2^min (1:Int).toNat (IntKind.u64).bits)=((n/2:Nat):Int):=by
  have:min (1:Int).toNat (IntKind.u64).bits=1:=by decide
  rw[this]
  simp[Int.fdiv_eq_ediv]
 rw[hs,Option.bind_some,Ba WX,wrap_i64 (by omega) (by omega),Option.bind_some,show(1:Int)=((1:Nat):Int)from rfl,u64_and hn (by omega),Option.bind_some,Nat.and_one_is_mod,Ba WX,wrap_i64 (by omega) (by omega),Option.bind_some]
 by_cases h2:n%2=0
 ·have:un .neg (.int .i64 ((n%2:Nat):Int))=some (.int .i64 0):=by rw[h2];rfl
  rw[this,Option.bind_some,AFZ (by omega),Option.bind_some,Ee]
  simp only[zz,h2,if_true,List.length_set]
  rw[show h.length=(h.set id (BG (AU s e).2.1 (AU s e).2.2)).length by simp,take_len]
 ·have:un .neg (.int .i64 ((n%2:Nat):Int))=some (.int .i64 (-1)):=by rw[show n%2=1 by omega];rfl
  rw[this,Option.bind_some,AFa (by omega),Option.bind_some,Ee]
  simp only[zz,h2,if_false]
  rw[show h.length=(h.set id (BG (AU s e).2.1 (AU s e).2.2)).length by simp,take_len]
end
section
open Go AM
def Ht:Nat→Nat→List UInt8
 |0,_=>[]
 |f+1,n=>if n<128 then[UInt8.ofNat n]else UInt8.ofNat (n%128+128)::Ht f (n/128)
def Aq (n:Nat):List UInt8:=Ht 10 n
theorem Af:∀f n,(Ht f n).length≤f
 |0,_=>by simp[Ht]
 |f+1,n=>by
  rw[Ht];split
  ·simp
  ·have:=Af f (n/128);simp;omega
def BD (f:Fl) (l:List UInt8):V:= .agg 124 [bL f l]
def Bh (id:Nat):V:= .ref id [] 125
abbrev OK (f:Fl):Prop:=f= .own∨f= .nil
theorem AQe (a:Nat) (ha:a<256):AO .or (.int .u8 (a:Int)) (.int .u8 128)=some (.int .u8 ((a%128+128:Nat):Int)):=by
 have h:∀x:Fin 256,x.val|||128=x.val%128+128:=by decide
 have e:=h ⟨a,ha⟩
 rw[show(128:Int)=((128:Nat):Int)from rfl,ALf,BV,BV,show(BitVec.ofNat (IntKind.u8).bits a|||BitVec.ofNat (IntKind.u8).bits 128).toNat=a|||128 from AFF (w:=8) (by omega) (by omega),e,wrap_u8 (by omega) (by omega)]
theorem Pm {B:Type} {id:Nat} (K:V→Option B):(Bj (Bh id)).bind K=K (Bh id):=rfl
theorem Yu {B:Type} {id:Nat} (K:V→Option B):(A7 P 125 0 (Bh id)).bind K=K (.ref id [0] 68):=
 AB (FU (P:=P) (t:=125) (f:=0) AFA rfl (by rw[ALb];decide) id []) K
def wk:Fl→Fl
 | .own=> .sh
 |f=>f
theorem ABN (f:Fl) (l:List UInt8):(bL f l).weak=bL (wk f) l:=by cases f<;>rfl
theorem OD {B:Type} {h:List V} {id:Nat} {f:Fl} {l:List UInt8} (hh:h[id]?=some (BD f l)) (K:V×List V→Option B):
 (Bd h 68 (.ref id [0] 68)).bind K=K (bL f l,h.set id (BD (wk f) l)):=by
 refine AB ?_ K
 have r:rd h id [0]=some (bL f l):=Jq hh rfl
 simp[Bd,r,wr,hh,BD,V.upd,ABN]
theorem tyB (f:Fl) (l:List UInt8):BN P 68 (bL f l)=true:=by simp[BN,H6,bL]
theorem unB (n:Nat) {f:Fl} (hf:f≠ .lent) (l:List UInt8):(bL f l).under n=true:=by cases f<;>first|rfl|exact absurd rfl hf
theorem Yv {B:Type} {h:List V} {id:Nat} {f:Fl} {l m:List UInt8} (hh:h[id]?=some (BD f l)) (K:List V→Option B):
 (Ec P h 68 (.ref id [0] 68) (bL .own m)).bind K=K (h.set id (BD .own m)):=by
 refine AB ?_ K
 exact G9 hh rfl (tyB _ _) (unB _ (by intro h;cases h) _)
theorem Gp (h:List V):Cl 45 [] h=some (Bh h.length,h++[BD .nil []]):=by
 rw[AKv,ADk,ADl]
 have b:YO P 125 []=some (BD .nil []):=by simp[YO,AFA,ALc,Cb,BD,bL,bytesOf]
 refine(AB b _).trans ?_
 have w:(BD .nil []).weak=BD .nil []:=rfl
 have c:(BN P 125 (BD .nil [])&&V.under h.length (BD .nil []))=true:=by simp[BN,AFA,BD,V.under,Ae,bL]
 rw[w,if_pos c];rfl
theorem ALs {n:Nat} {h:List V}:(if(List.all [] V.okE)=true then AV n h (V.tup [])else none)=some (.tup [],h.take n):=rfl
theorem Gq {h:List V} {id:Nat} {a b:V}:(h.set id a).set id b=h.set id b:=by simp
theorem ALt {id:Nat} (h0:List V) (hid:id<h0.length):∀(k n:Nat) (f:Fl) (l:List UInt8) (h:List V),h=h0.set id (BD f l)→OK f→n<128^k→n<18446744073709551616→0<k→l.length+k≤2147483648→
 UU (Bh id) (.int .u64 (n:Int)) h0.length h=some (.tup [],h0.set id (BD .own (l++Ht k n))):=by
 intro k
 induction k with
 |zero=>intro n f l h _ _ _ _ h0 _;omega
 |succ k ih=>
  intro n f l h eh hf hn h64 _ hl
  have hh:h[id]?=some (BD f l):=by rw[eh,List.getElem?_set];simp[hid]
  have hw:(h.set id (BD (wk f) l))[id]?=some (BD (wk f) l):=JC _ hh
  rw[ACD,ADm]
  by_cases hb:n<128
  ·refine(AN9 (by omega) _).trans ?_
   rw[BQ,ADp]
   refine(Pm _).trans<|(Yu _).trans<|(OD hh _).trans ?_
   refine(cv8 _).trans<|(app1 hf (by omega) _ (Nat.mod_lt _ (by decide)) _).trans<|(Pm _).trans<|(Yu _).trans<|(Yv hw _).trans ?_
   rw[ALs,Gq,Nat.mod_eq_of_lt (by omega),Ht,if_pos hb,eh,Gq,List.take_of_length_le (by simp)]
  ·refine(AN8 (by omega) _).trans ?_
   rw[BP,ADn]
   refine(Pm _).trans<|(Yu _).trans<|(OD hh _).trans ?_
   refine(cv8 _).trans<|(AB (AQe _ (Nat.mod_lt _ (by decide))) _).trans<|(app1 hf (by omega) _ (by omega) _).trans<|(Pm _).trans<|(Yu _).trans<|(Yv hw _).trans ?_
   rw[ADo]
   have hs:AO .shr (.int .u64 (n:Int)) (.int .u64 7)=some (.int .u64 ((n/128:Nat):Int)):=by
    rw[Rx _ _ _ _ (by omega)]
    have:min ((7:Int)).toNat (IntKind.u64).bits=7:=by decide
    rw[this];exact congrArg _ (congrArg _ (Pe n 7))
   refine(AB hs _).trans ?_
   rw[Gq,show n%256%128=n%128 by omega,Ht,if_neg hb]
   have k0:0<k:=by
    rcases Nat.eq_zero_or_pos k with h|h
    ·subst h;simp at hn;omega
    ·exact h
   have:=ih (n/128) .own (l++[UInt8.ofNat (n%128+128)]) (h.set id (BD .own (l++[UInt8.ofNat (n%128+128)]))) (by rw[eh,Gq]) (Or.inl rfl) (by rw[Nat.pow_succ]at hn;omega) (by omega) k0 (by simp;omega)
   rw[List.append_assoc,List.singleton_append]at this
   exact this
theorem Df {h:List V} {id n:Nat} {f:Fl} {l:List UInt8} (hh:h[id]?=some (BD f l)) (hf:OK f) (hn:n<18446744073709551616) (hl:l.length+10≤2147483648):
 Cl 46 [Bh id,.int .u64 (n:Int)] h=some (.tup [],h.set id (BD .own (l++Aq n))):=by
 rw[AKw]
 exact ALt h (HY hh) 10 n f l h (KN hh).symm hf (Nat.lt_of_lt_of_le hn (by decide)) hn (by omega) hl
theorem AJ2 (id:Nat) (x:Int) (k:IntKind):AP [Bh id,.int k x]=[Bh id,.int k x]:=rfl
theorem Ju {h:List V} {id:Nat} {f:Fl} {l s:List UInt8} (hh:h[id]?=some (BD f l)) (hf:OK f) (hl:l.length+10+s.length≤2147483648):
 Cl 48 [Bh id,.str s] h=some (.tup [],h.set id (BD .own (l++Aq s.length++s))):=by
 have nl:=Af 10 s.length
 rw[AKy,ADq]
 refine(AB (show lenV P 9 (.str s)=some (.int .i64 (s.length:Int))by simp[lenV,GH]) _).trans ?_
 refine(AB (Ba GZ ..) _).trans ?_
 rw[wrap_u64 (by omega) (by omega),AJ2]
 refine(AB (Df hh hf (by omega) (by omega)) _).trans ?_
 have h2:=JC (BD .own (l++Aq s.length)) hh
 rw[ADr]
 refine(Pm _).trans<|(Yu _).trans<|(OD h2 _).trans ?_
 refine(AB (AFR H6 (Or.inl rfl) (y:=V.str s) (ys:=bytesOf s) rfl (CG s) (Ez s) (by rw[Ap,Ap,List.length_append,Aq];omega) Yj) _).trans ?_
 rw[←GK]
 refine(Pm _).trans<|(Yu _).trans<|(Yv (JC _ h2) _).trans ?_
 rw[ALs,Gq,Gq,List.take_of_length_le (by simp)]
theorem FY {h:List V} {id:Nat} {f:Fl} {l:List UInt8} (hh:h[id]?=some (BD f l)):Cl 50 [Bh id] h=some (.str l,h):=by
 rw[AK0,AD1,AD2]
 refine(Pm _).trans<|(Yu _).trans ?_
 have r:rd h id [0]=some (bL f l):=Jq hh rfl
 refine(AB (show BA h 68 (.ref id [0] 68)=some (bL (wk f) l)by simp[BA,BR r,ABN]) _).trans ?_
 refine(AB (show conv P h 68 9 (bL (wk f) l)=some (.str l)by simp[conv,GH,PU,PO,bL,Ah,Yt]) _).trans ?_
 rw[N7,List.take_of_length_le (Nat.le_refl _)]
def Qq (n:Int):Nat:=if 0≤n then(2*n).toNat else(-2*n-1).toNat
theorem SK {h:List V} {id:Nat} {n:Int} {f:Fl} {l:List UInt8} (hh:h[id]?=some (BD f l)) (hf:OK f) (h1: -9223372036854775808≤n) (h2:n<9223372036854775808) (hl:l.length+10≤2147483648):
 Cl 97 [Bh id,.int .i64 n] h=some (.tup [],h.set id (BD .own (l++Aq (Qq n)))):=by
 rw[ALU,AE7]
 refine(AB (Ba GZ ..) _).trans ?_
 refine(AB (AFD _ _ _ _ (by omega)) _).trans ?_
 refine(AB (Rx _ _ _ _ (by omega)) _).trans ?_
 have m1:min ((1:Int)).toNat (IntKind.u64).bits=1:=by decide
 have m63:min ((63:Int)).toNat (IntKind.i64).bits=63:=by decide
 rw[m1,m63]
 refine(AB (Ba GZ ..) _).trans ?_
 have key:AO .xor (.int .u64 (IntKind.wrap .u64 (IntKind.wrap .u64 n*2^1))) (.int .u64 (IntKind.wrap .u64 (n.fdiv (2^63))))=some (.int .u64 ((Qq n:Nat):Int)):=by
  rw[GI,GI,GI]
  by_cases hn:0≤n
  ·have e1:n%18446744073709551616*2^1%18446744073709551616=(((2*n).toNat:Nat):Int):=by omega
   have e2:n.fdiv (2^63)%18446744073709551616=((0:Nat):Int):=by
    rw[Int.fdiv_eq_ediv_of_nonneg _ (by decide)];omega
   rw[e1,e2,u64_xor (by omega) (by omega),Nat.xor_zero,Qq,if_pos hn]
  ·have e1:n%18446744073709551616*2^1%18446744073709551616=((18446744073709551615-(-2*n-1).toNat:Nat):Int):=by omega
   have e2:n.fdiv (2^63)%18446744073709551616=((18446744073709551615:Nat):Int):=by
    rw[Int.fdiv_eq_ediv_of_nonneg _ (by decide)];omega
   have hb:(-2*n-1).toNat<18446744073709551616:=by omega
   rw[e1,e2,u64_xor (by omega) (by omega),Qq,if_neg hn]
   generalize (-2*n-1).toNat=m at hb
   have hx:∀x:Nat,x<18446744073709551616→x ^^^ 18446744073709551615=18446744073709551615-x:=by
    intro x hx
    apply Nat.eq_of_testBit_eq
    intro i
    rw[show 18446744073709551615-x=2^64-(x+1)by omega,Nat.testBit_two_pow_sub_succ (n:=64) hx i,Nat.testBit_xor,show(18446744073709551615:Nat)=2^64-1 by rfl,Nat.testBit_two_pow_sub_one]
    by_cases hi:i<64
    ·simp[hi]
    ·have:x.testBit i=false:=Nat.testBit_lt_two_pow (Nat.lt_of_lt_of_le hx (Nat.pow_le_pow_right (n:=2) (i:=64) (by decide) (by omega)))
     simp[hi,this]
   rw[hx _ (by omega)]
   congr 3;omega
 refine(AB key _).trans ?_
 rw[AJ2]
 have hu:Qq n<18446744073709551616:=by simp only[Qq];split<;>omega
 refine(AB (Df hh hf hu hl) _).trans ?_
 rw[ALs,List.take_of_length_le (by simp)]
end
end Go.Proofs.YtiegkempfolgcaaGreatDoor
