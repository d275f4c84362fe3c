/-
  Part of the proof of a statement about the given program: an abstract machine over its code, the simulation, its functions' equations, what they compute.
-/
import Derived.Test.YtiegkempfolgcaaGreatDoorMg5
import Derived.Test.YtiegkempfolgcaaGreatDoorMg6
import Derived.Test.YtiegkempfolgcaaGreatDoorMg7
set_option linter.unusedVariables false
set_option linter.unusedSimpArgs false
set_option linter.unusedSectionVars false
set_option maxRecDepth 100000
noncomputable section
namespace Go.Proofs.YtiegkempfolgcaaGreatDoor
section
open Go AM
def EH:Nat→Nat→List UInt8→Nat×Nat×Nat
 |_,_,[]=>(0,0,20)
 |k,v,c::cs=>if(k=9∧1<c.toNat)∨(0<k∧c.toNat=0)then(0,0,21)else
  if c.toNat<128 then(v+c.toNat%128*128^k,k+1,0)else EH (k+1) (v+c.toNat%128*128^k) cs
def AGi (r:Nat×Nat×Nat):V:= .tup [.int .u64 (r.1:Int),.int .i64 (r.2.1:Int),.int .i64 (r.2.2:Int)]
theorem ANf {v c k:Nat} (hv:v<128^k):v|||(c*128^k)=v+c*128^k:=by
 have e:128^k=2^(7*k):=by rw[Nat.pow_mul]
 rw[e]at hv⊢
 rw[Nat.or_comm,Nat.add_comm,Nat.mul_comm,←Nat.two_pow_add_eq_or_of_lt hv]
theorem ANg (k c:Nat) (K:V→Option (V×List V)):Za (.int .i64 (k:Int)) (.int .u8 (c:Int)) K=K (.bool (decide ((k=9∧1<c)∨(0<k∧c=0)))):=by
 simp only[Za,b_eql,b_gtr,Option.bind_some,FQ]
 by_cases h1:k=9
 ·subst h1
  by_cases h2:1<c
  ·have:(1:Int)<c:=by omega
   simp[h2,this,APu]
  ·have:¬(1:Int)<c:=by omega
   simp only[this,if_false,h2]
   by_cases h3:c=0<;>simp[h3]
 ·have:¬(k:Int)=9:=by omega
  simp only[this,if_false,h1]
  by_cases h2:0<k
  ·have:(0:Int)<k:=by omega
   simp only[this,if_true,h2]
   by_cases h3:c=0<;>simp[h3]
  ·have:¬(0:Int)<k:=by omega
   simp[this,h2]
theorem ANh {v k c:Nat} (hc:c<256) (h9:k≤9) (hk:k=9→c≤1) (hv:v<128^k) (K:V→Option (V×List V)):
 Zb (.int .u64 (v:Int)) (.int .i64 (k:Int)) (.int .u8 (c:Int)) K=K (.int .u64 ((v+c%128*128^k:Nat):Int)):=by
 have e:128^k=2^(7*k):=by rw[Nat.pow_mul]
 have hp:128^k≤2^63:=by rw[e];exact Nat.pow_le_pow_right (by omega) (by omega)
 have hpv:c%128*128^k<18446744073709551616:=by
  by_cases h:k=9
  ·have:=hk h
   have:c%128≤1:=by omega
   calc c%128*128^k≤1*2^63:=Nat.mul_le_mul this hp
    _<18446744073709551616:=by decide
  ·have hp8:128^k≤2^56:=by rw[e];exact Nat.pow_le_pow_right (by omega) (by omega)
   calc c%128*128^k≤127*2^56:=Nat.mul_le_mul (by omega) hp8
    _<18446744073709551616:=by decide
 have hm:c&&& 127=c%128:=Nat.and_two_pow_sub_one_eq_mod c 7
 have hv64:v<18446744073709551616:=Nat.lt_of_lt_of_le hv (Nat.le_trans hp (by decide))
 have h7:(7:Int)*(k:Int)=((7*k:Nat):Int):=by omega
 have hcm:c%128<128:=Nat.mod_lt _ (by omega)
 have hor:=ANf (c:=c%128) hv
 simp only[Zb]
 rw[show(127:Int)=((127:Nat):Int)from rfl,u8_and hc (by omega),hm]
 simp only[Option.bind_some]
 rw[BQ D5,wrap_u64 (by omega) (by omega),Option.bind_some,QN,h7,wrap_i64 (by omega) (by omega),Option.bind_some,BQ OQ,wrap_u64 (by omega) (by omega),Option.bind_some,AGe _ _ _ _ (by omega)]
 have hmin:min ((7*k:Nat):Int).toNat (IntKind.u64).bits=7*k:=by
  simp only[Int.toNat_natCast,IntKind.bits];omega
 rw[hmin]
 have hcast:(((c%128:Nat):Int)*2^(7*k))=((c%128*128^k:Nat):Int):=by rw[e];push_cast;rfl
 rw[hcast,wrap_u64 (by omega) (by omega),Option.bind_some,u64_or hv64 hpv,Option.bind_some,hor]
theorem Xz:∀(cs s:List UInt8) (k v:Nat),s.drop k=cs→k≤s.length→k≤9→s.length<4611686018427387904→v<128^k→
 VL (.str s) (.int .u64 (v:Int)) (.int .i64 (s.length:Int)) (.int .i64 (k:Int))=some (AGi (EH k v cs),[]):=by
 intro cs
 induction cs with
 |nil=>
  intro s k v hd hk h9 hl hv
  have hk':k=s.length:=by
   have:=congrArg List.length hd
   simp at this;omega
  rw[Td]
  simp only[ZY,b_lss,Option.bind_some,FQ,hk',Int.lt_irrefl,if_false,AAt,EH,AGi]
  rfl
 |cons c cs ih=>
  intro s k v hd hk h9 hl hv
  have hb:s[k]?=some c:=by
   have:=congrArg (·[0]?) hd
   simpa [List.getElem?_drop]using this
  have hlt:k<s.length:=by
   rcases Nat.lt_or_ge k s.length with h|h
   ·exact h
   ·rw[List.getElem?_eq_none h]at hb;cases hb
  have hd':s.drop (k+1)=cs:=by
   rw[←List.drop_drop,hd];rfl
  have hc:c.toNat<256:=c.toNat_lt
  rw[Td]
  simp only[ZY,AF6,AF7,AF8,AF9,
   b_lss,Option.bind_some,FQ,Int.ofNat_lt,hlt,if_true,ACh EJ hb,ANg,EH]
  by_cases hbad:(k=9∧1<c.toNat)∨(0<k∧c.toNat=0)
  ·simp only[hbad,if_true];rfl
  ·simp only[hbad,if_false]
   rw[ANh hc h9 (fun h=>by omega) hv]
   have h128:(((c.toNat:Nat):Int)<128)↔c.toNat<128:=by omega
   simp only[h128]
   by_cases hs:c.toNat<128
   ·simp only[hs,if_true,AAr]
    rw[Dt,show((k:Int)+1)=((k+1:Nat):Int)by omega,wrap_i64 (by omega) (by omega)]
    rfl
   ·simp only[hs,if_false,AAs]
    rw[Dt,show((k:Int)+1)=((k+1:Nat):Int)by omega,wrap_i64 (by omega) (by omega),Option.bind_some]
    have hk9:k<9:=by omega
    refine ih s (k+1) _ hd' (by omega) (by omega) hl ?_
    have:c.toNat%128<128:=Nat.mod_lt _ (by omega)
    calc v+c.toNat%128*128^k<128^k+127*128^k:=Nat.add_lt_add_of_lt_of_le hv (Nat.mul_le_mul_right _ (by omega))
     _=128^(k+1):=by rw[Nat.pow_succ];omega
theorem Tn (s:List UInt8) (hl:s.length<4611686018427387904):Cl 79 [.str s] []=some (AGi (EH 0 0 s),[]):=by
 rw[AM9]
 simp only[AF3,AF4,AF5,ACg EJ,Option.bind_some]
 exact Xz s s 0 0 rfl (Nat.zero_le _) (by omega) hl (by decide)
end
section
open Go AM
section
variable {P:Program}
theorem FT {t u:TypeId} {fs:List TypeId} {f:Nat} {ft:TypeId} (hk:K P t= .struct u fs) (hf:fs[f]?=some ft) (hc:P.cellsOf ft≠0) (id:Nat) (p:List Nat):Ap P t f (.ref id p t)=some (.ref id (p++[f]) ft):=by
 simp[Ap,hk,hf,hc]
theorem BG {h:List V} {t:TypeId} {id:Nat} {p:List Nat} {v:V} (hr:rd h id p=some v):AY h t (.ref id p t)=some v:=by simp[AY,hr]
theorem Kq {h:List V} {t:TypeId} {v:V}:AY h t (.rop t v)=some v:=by simp[AY]
theorem CS {h:List V} {id:Nat} {v:V} (hv:h[id]?=some v):rd h id []=some v:=by simp[rd,hv,V.at]
theorem J4 {h:List V} {id i:Nat} {u:TypeId} {fs:List V} {v:V} (hv:h[id]?=some (.agg u fs)) (hi:fs[i]?=some v):rd h id [i]=some v:=by simp[rd,hv,V.at,hi]
theorem ANi {h:List V} {id i:Nat} {u:TypeId} {fs:List V} {v:V} (hv:h[id]?=some (.row u fs)) (hi:fs[i]?=some v):rd h id [i]=some v:=by simp[rd,hv,V.at,hi]
theorem CB {h:List V} {t:TypeId} {id:Nat} {v w:V} (hw:h[id]?=some w) (ht:BJ P t v=true) (hu:v.under (id+1)=true):D8 P h t (.ref id [] t) v=some (h.set id v):=by
 simp[D8,ht,hu,wr,hw,V.upd]
theorem G7 {h:List V} {t u:TypeId} {id i:Nat} {fs:List V} {v x:V} (hw:h[id]?=some (.agg u fs)) (hi:fs[i]?=some x) (ht:BJ P t v=true) (hu:v.under (id+1)=true):D8 P h t (.ref id [i] t) v=some (h.set id (.agg u (fs.set i v))):=by
 simp[D8,ht,hu,wr,hw,V.upd,hi]
theorem AJh {h:List V} {t u:TypeId} {id i:Nat} {fs:List V} {v x:V} (hw:h[id]?=some (.row u fs)) (hi:fs[i]?=some x) (ht:BJ P t v=true) (hu:v.under (id+1)=true):D8 P h t (.ref id [i] t) v=some (h.set id (.row u (fs.set i v))):=by
 simp[D8,ht,hu,wr,hw,V.upd,hi]
end
theorem QO {α:Type} (h:List α) (z:α):(h++[z])[h.length]?=some z:=by simp
theorem Kr {α:Type} {h:List α} {i:Nat} {x:α} (z:List α) (hx:h[i]?=some x):(h++z)[i]?=some x:=by
 have hi:i<h.length:=by
  rcases Nat.lt_or_ge i h.length with h'|h'
  ·exact h'
  ·rw[List.getElem?_eq_none h']at hx;cases hx
 rw[List.getElem?_append_left hi];exact hx
theorem Ku {α:Type} {h:List α} {i:Nat} {x:α} (y:α) (hx:h[i]?=some x):(h.set i y)[i]?=some y:=by
 have hi:i<h.length:=by
  rcases Nat.lt_or_ge i h.length with h'|h'
  ·exact h'
  ·rw[List.getElem?_eq_none h']at hx;cases hx
 rw[List.getElem?_set];simp[hi]
theorem Zi {α:Type} {h:List α} {i j:Nat} (y:α) (hij:j≠i):(h.set i y)[j]?=h[j]?:=by
 rw[List.getElem?_set];simp[Ne.symm hij]
theorem Kv {α:Type} {l:List α} {i:Nat} {a:α} (h:l[i]?=some a):l.set i a=l:=by
 apply List.ext_getElem?
 intro j
 by_cases hj:j=i
 ·subst hj;rw[Ku a h,h]
 ·rw[Zi a hj]
theorem IJ {α:Type} {h:List α} {i:Nat} {x:α} (hx:h[i]?=some x):i<h.length:=by
 rcases Nat.lt_or_ge i h.length with h'|h'
 ·exact h'
 ·rw[List.getElem?_eq_none h']at hx;cases hx
theorem X0 {α:Type} (h:List α) (z y:α):(h++[z]).set h.length y=h++[y]:=by simp
theorem Vk {α:Type} {h:List α} {i:Nat} (z:List α) (y:α) (hi:i<h.length):(h++z).set i y=h.set i y++z:=by rw[List.set_append_left _ _ hi]
theorem X3 {α:Type} (h z:List α):(h++z).take h.length=h:=by simp
theorem take_len {α:Type} (h:List α):h.take h.length=h:=by simp
theorem take_set {α:Type} (h z:List α) (i:Nat) (y:α):(h.set i y++z).take h.length=h.set i y:=by
 have:(h.set i y).length=h.length:=by simp
 rw[←this];simp
theorem ANj (id:Nat) (p:List Nat) (t:TypeId):List.all [V.ref id p t] V.capOk=true:=rfl
theorem Gj {R:Type} {f:FuncId} {cs vs h:List V} (k:V→List V→Option R) (he:DZ.ext f=false) (hp:DZ.pure f=false) (hs:(DZ.seq f).1=0:=by kernel_rfl):CG P DZ W (.clo f cs) vs h k=(Cl f (AU (vs++cs)) h).bind fun r=>k r.1 r.2:=by
 simp only[CG,H9,he,hp,hs,ne_eq,not_true_eq_false,Bool.false_eq_true,if_false,if_true];rfl
theorem OU {R:Type} {f:FuncId} {cs vs h:List V} (k:V→List V→Option R) (he:DZ.ext f=false) (hp:DZ.pure f=true) (hs:(DZ.seq f).1=0:=by kernel_rfl):CG P DZ W (.clo f cs) vs h k=(Cl f (AA h (vs++cs)) []).bind fun r=>k r.1 h:=by
 simp only[CG,H9,he,hp,hs,ne_eq,not_true_eq_false,Bool.false_eq_true,if_false,if_true];rfl
end
section
open Go AM
def BA (s:List UInt8) (e:Nat):V:= .agg 129 [.str s,.int .i64 (e:Int)]
def CP (id:Nat):V:= .ref id [] 130
theorem APw (id:Nat):Ap P 130 0 (.ref id [] 130)=some (.ref id [0] 9):=FT ACe rfl (by rw[APs];decide) id []
theorem AJi (id:Nat):Ap P 130 1 (.ref id [] 130)=some (.ref id [1] 34):=FT ACe rfl (by rw[ANX];decide) id []
theorem ANk {h:List V} {id:Nat} {s:List UInt8} {e:Nat} (hh:h[id]?=some (BA s e)):AY h 9 (.ref id [0] 9)=some (.str s):=BG (J4 (i:=0) hh rfl)
theorem AJj {h:List V} {id:Nat} {s:List UInt8} {e:Nat} (hh:h[id]?=some (BA s e)):AY h 34 (.ref id [1] 34)=some (.int .i64 (e:Int)):=BG (J4 (i:=1) hh rfl)
theorem ASk {h:List V} {id:Nat} {s s':List UInt8} {e:Nat} (hh:h[id]?=some (BA s e)):D8 P h 9 (.ref id [0] 9) (.str s')=some (h.set id (BA s' e)):=
 G7 (i:=0) hh rfl (by simp[BJ,K_9,BK,EJ]) rfl
theorem ASl {h:List V} {id:Nat} {s:List UInt8} {e e':Nat} (hh:h[id]?=some (BA s e)):D8 P h 34 (.ref id [1] 34) (.int .i64 (e':Int))=some (h.set id (BA s e')):=
 G7 (i:=1) hh rfl (by simp[BJ,ASj,BK,ANW]) rfl
def Reads (f:V) (h:List V) (s:List UInt8) (n e:Nat) (h':List V):Prop:=
 ∀(k:V→List V→Option (V×List V)),CG P DZ W f [.str s] h k=k (.tup [.int .i64 (n:Int),.int .i64 (e:Int)]) h'
theorem QR (n:Nat) (h:List V) (b:Bool):AQ n h (.bool b)=some (.bool b,h.take n):=rfl
theorem EK (n:Nat) (h:List V) (k:IntKind) (b:Int):AQ n h (.int k b)=some (.int k b,h.take n):=rfl
theorem F9 (n:Nat) (h:List V) (s:List UInt8):AQ n h (.str s)=some (.str s,h.take n):=rfl
theorem QS {f:V} {h:List V} {id:Nat} {s:List UInt8} {e:Nat} (hh:h[id]?=some (BA s e)) (he:e≠0):Cl 77 [CP id,f] h=some (.bool false,h):=by
 rw[AFy]
 have:(e:Int)≠0:=by omega
 simp only[ZW,ZX,AFr,Bj,CP,Option.bind_some,AJi,AJj hh,b_neq,FQ,this,ne_eq,not_false_eq_true,if_true,QR,take_len]
theorem Vl {f:V} {h h':List V} {id:Nat} {s:List UInt8} {n e:Nat} (hh:h[id]?=some (BA s 0)) (hf:Reads f h s n e h') (hh':h'[id]?=some (BA s 0)) (hn:n≤s.length):
 Cl 77 [CP id,f] h=some (.bool (decide (e=0)),(h'.set id (if e=0 then BA (s.drop n) 0 else BA s e)).take h.length):=by
 have hid:=IJ hh'
 have g1:(h'.set id (BA s e))[id]?=some (BA s e):=Ku _ hh'
 rw[AFy]
 simp only[ZW,ZX,AFs,AFt,AFu,AFv,AFw,AFx,Bj,CP,Option.bind_some,
  APw,AJi,AJj hh,ANk hh,b_neq,FQ,Int.natCast_zero,ne_eq,not_true_eq_false,if_false]
 rw[hf]
 simp only[V.noOwn,BF,Bool.and_self,if_true,ext,List.getElem?_cons_zero,List.getElem?_cons_succ,Option.bind_some,ASl hh',FQ]
 by_cases he:e=0
 ·subst he
  have b1:JY P 9 (.str s) (some (.int .i64 (n:Int))) none none=some (.str (s.drop n)):=by
   simp[JY,AAh,EJ,Bh,hn]
  have g1':(h'.set id (BA s 0))[id]?=some (BA s 0):=g1
  simp only[b_neq,FQ,Int.natCast_zero,ne_eq,not_true_eq_false,if_false,ANk g1',b1,Option.bind_some,ASk g1',List.set_set,QR,if_true,decide_true]
 ·have:(e:Int)≠0:=by omega
  simp only[b_neq,FQ,Option.bind_some,this,ne_eq,not_false_eq_true,if_true,QR,he,if_false,decide_false]
theorem AJk {h:List V} {id:Nat} {s:List UInt8} (hh:h[id]?=some (BA s 0)) (hl:s.length<4611686018427387904) (x:Int):
 Reads (.clo 78 [.ref h.length [] 93]) (h++[.int .u64 x]) s (EH 0 0 s).2.1 (EH 0 0 s).2.2 (h++[.int .u64 ((EH 0 0 s).1:Int)]):=by
 intro k
 rw[Gj k (by kernel_rfl) (by kernel_rfl)]
 have e1:AU ([V.str s]++[V.ref h.length [] 93])=[V.str s,V.ref h.length [] 93]:=rfl
 have s1:∀y:Int,D8 P (h++[V.int .u64 x]) 93 (.ref h.length [] 93) (.int .u64 y)=some (h++[.int .u64 y]):=by
  intro y
  rw[CB (QO h _) (by simp[BJ,AGb,BK,D5]) rfl,X0]
 rw[e1,AM8]
 have e2:AA (h++[V.int .u64 x]) [V.str s]=[V.str s]:=rfl
 simp only[AFz,AF0,AF1,AF2,e2,Tn s hl,AGi,Option.bind_some,ext,List.getElem?_cons_zero,List.getElem?_cons_succ,s1]
 have e3:(h++[V.int .u64 ((EH 0 0 s).1:Int)]).take (h++[V.int .u64 x]).length=h++[V.int .u64 ((EH 0 0 s).1:Int)]:=by
  rw[show(h++[V.int .u64 x]).length=(h++[V.int .u64 ((EH 0 0 s).1:Int)]).length by simp,take_len]
 simp only[List.all_cons,List.all_nil,V.okE,Bool.and_self,if_true,AQ,V.unmut,CZ,V.norm,AU,V.clean,AV,V.over,DK,Bool.and_self,if_true,e3,Option.bind_some]
theorem OV:∀(cs:List UInt8) (k v:Nat),(EH k v cs).2.1≤k+cs.length
 |[],k,v=>by simp[EH]
 |c::cs,k,v=>by
  simp only[EH]
  split
  ·simp
  ·split
   ·simp
   ·have:=OV cs (k+1) (v+c.toNat%128*128^k)
    simp;omega
def AP (s:List UInt8) (e:Nat):Nat×List UInt8×Nat:=
 if e≠0 then(0,s,e)else let r:=EH 0 0 s;(r.1,if r.2.2=0 then s.drop r.2.1 else s,r.2.2)
theorem G8 {h:List V} {id:Nat} {s:List UInt8} {e:Nat} (hh:h[id]?=some (BA s e)) (hl:s.length<4611686018427387904):
 Cl 55 [CP id] h=some (.int .u64 ((AP s e).1:Int),h.set id (BA (AP s e).2.1 (AP s e).2.2)):=by
 have hid:=IJ hh
 have s0:D8 P (h++[zero P 93]) 93 (.ref h.length [] 93) (.int .u64 0)=some (h++[.int .u64 0]):=by
  rw[CB (QO h _) (by simp[BJ,AGb,BK,D5]) rfl,X0]
 have hh1:(h++[V.int .u64 0])[id]?=some (BA s e):=Kr _ hh
 rw[AMw]
 simp only[AFW,AFX,AFY,AFZ,s0,Option.bind_some,ANj,if_true]
 have e1:AU [CP id,V.clo 78 [V.ref h.length [] 93]]=[CP id,V.clo 78 [V.ref h.length [] 93]]:=rfl
 rw[e1]
 by_cases he:e=0
 ·subst he
  have hl2:=OV s 0 0
  rw[Vl hh1 (AJk hh hl 0) (Kr _ hh) (by omega)]
  simp only[Option.bind_some]
  rw[Vk _ _ hid]
  have e4:∀y,(h.set id y++[V.int .u64 ((EH 0 0 s).1:Int)]).take (h++[V.int .u64 0]).length=h.set id y++[V.int .u64 ((EH 0 0 s).1:Int)]:=by
   intro y
   rw[show(h++[V.int .u64 0]).length=(h.set id y++[V.int .u64 ((EH 0 0 s).1:Int)]).length by simp,take_len]
  rw[e4]
  have e5:∀y,AY (h.set id y++[V.int .u64 ((EH 0 0 s).1:Int)]) 93 (.ref h.length [] 93)=some (.int .u64 ((EH 0 0 s).1:Int)):=by
   intro y
   refine BG (CS ?_)
   simp
  rw[e5,Option.bind_some,EK,take_set]
  simp only[AP,ne_eq,not_true_eq_false,if_false]
  by_cases h2:(EH 0 0 s).2.2=0<;>simp[h2]
 ·rw[QS hh1 he]
  simp only[Option.bind_some]
  have e5:AY (h++[V.int .u64 0]) 93 (.ref h.length [] 93)=some (.int .u64 0):=BG (CS (QO h _))
  rw[e5,Option.bind_some,EK,X3]
  simp only[AP,he,ne_eq,not_false_eq_true,if_true]
  rw[Kv hh];rfl
theorem QT {h:List V} {id:Nat} {s:List UInt8} {e:Nat} (hh:h[id]?=some (BA s e)):Cl 82 [CP id] h=some (.int .i64 (e:Int),h):=by
 rw[ANB]
 simp only[AGB,AGC,Bj,CP,Option.bind_some,AJi,AJj hh,EK,take_len]
def FB (s:List UInt8) (e:Nat):Nat:=if e=0∧s≠[]then 22 else e
theorem Vm {h:List V} {id:Nat} {s:List UInt8} {e:Nat} (hh:h[id]?=some (BA s e)):Cl 86 [CP id] h=some (.int .i64 (FB s e:Int),h):=by
 rw[ANG]
 simp only[AGQ,AGR,AGS,AGT,Bj,CP,Option.bind_some,APw,AJi,AJj hh,ANk hh,b_eql,s_neq,FQ,APv,EK,take_len,FB]
 by_cases he:e=0
 ·subst he
  by_cases hs:s=[]<;>simp[hs]
 ·have:¬(e:Int)=0:=by omega
  simp[he,this]
theorem FU (h:List V) (s:List UInt8):Cl 54 [.str s] h=some (CP h.length,h++[BA s 0]):=by
 rw[AMv]
 have e1:WU P 130 [(0,V.str s)]=some (BA s 0):=by
  simp[WU,ACe,ANc,Bc,BJ,K_9,BK,EJ,cp,ANU,BA]
 have e2:BJ P 130 (BA s 0)=true:=by simp[BJ,ACe,BA]
 have e3:V.under h.length (BA s 0)=true:=rfl
 simp only[AFU,AFV,e1,Option.bind_some,e2,e3,Bool.and_self,if_true,Wj]
 rfl
end
section
open Go AM
def vw (n:Nat):V:= .int .u32 (n:Int)
def Kw (l:List Nat):List V:=l.map vw
def A8 (l:List Nat):V:= .agg 184 (Kw l)
def SH (l:List Nat):V:= .agg 204 (Kw l)
def B32 (l:List Nat):Prop:=∀x∈l,x<4294967296
def D6 (x n:Nat):Nat:=x*2^(32-n)%4294967296|||x/2^n
theorem Af {x n:Nat} (hx:x<4294967296):D6 x n<4294967296:=
 Nat.or_lt_two_pow (n:=32) (Nat.mod_lt _ (by decide)) (Nat.lt_of_le_of_lt (Nat.div_le_self _ _) hx)
theorem GH (n:Int):IntKind.wrap .u64 n=n%18446744073709551616:=by simp[IntKind.wrap,IntKind.bits,IntKind.signed]
theorem QU (a n:Nat):Int.fdiv (a:Int) (2^n)=((a/2^n:Nat):Int):=by
 have e:(2:Int)^n=((2^n:Nat):Int):=by push_cast;rfl
 rw[e,Int.fdiv_eq_ediv_of_nonneg _ (Int.natCast_nonneg _)];rfl
theorem OW {a:Nat} (n:Nat) (hn:n≤32):AO .shr (.int .u32 (a:Int)) (.int .u64 (n:Int))=some (.int .u32 ((a/2^n:Nat):Int)):=by
 rw[Tj _ _ _ _ (by omega)]
 have:min ((n:Int)).toNat (IntKind.u32).bits=n:=by simp[IntKind.bits];omega
 rw[this,QU]
theorem OX {a:Nat} (n:Nat) (hn:n≤32):AO .shl (.int .u32 (a:Int)) (.int .u64 (n:Int))=some (.int .u32 ((a*2^n%4294967296:Nat):Int)):=by
 rw[AGe _ _ _ _ (by omega)]
 have:min ((n:Int)).toNat (IntKind.u32).bits=n:=by simp[IntKind.bits];omega
 rw[this]
 have e:((a:Int)*2^n)=((a*2^n:Nat):Int):=by push_cast;rfl
 rw[e,G6]
theorem AJl (a b:Nat):AO .add (.int .u32 (a:Int)) (.int .u32 (b:Int))=some (.int .u32 (((a+b)%4294967296:Nat):Int)):=by
 rw[Dt,show(a:Int)+(b:Int)=((a+b:Nat):Int)by omega,G6]
theorem AJm {x:Nat} (hx:x<4294967296) (n:Nat) (h1:1≤n) (h2:n≤31):Cl 156 [.int .u32 (x:Int),.int .i64 (n:Int)] []=some (.int .u32 (D6 x n:Int),[]):=by
 have key:Cl 172 [.int .u32 (x:Int),.int .i64 (-(n:Int))] []=some (.int .u32 (D6 x n:Int),[]):=by
  rw[AJd]
  have w:IntKind.wrap .u64 (-(n:Int))=((18446744073709551616-n:Nat):Int):=by rw[GH];omega
  have m:(18446744073709551616-n)&&& 31=32-n:=by
   rw[show(31:Nat)=2^5-1 from rfl,Nat.and_two_pow_sub_one_eq_mod];omega
  simp only[ACZ,ACa,ACb,BQ OQ,w,Option.bind_some]
  rw[show(31:Int)=((31:Nat):Int)from rfl,u64_and (by omega) (by omega),m,Option.bind_some,OX _ (by omega),Option.bind_some,Jc,show(32:Int)-((32-n:Nat):Int)=(n:Int)by omega,wrap_u64 (by omega) (by omega),Option.bind_some,OW _ (by omega),Option.bind_some,
   u32_or (Nat.mod_lt _ (by decide)) (Nat.lt_of_le_of_lt (Nat.div_le_self _ _) hx),Option.bind_some,EK]
  rfl
 rw[AJc]
 have ng:un .neg (.int .i64 (n:Int))=some (.int .i64 (-(n:Int))):=by
  simp only[un];rw[show(0:Int)-(n:Int)= -(n:Int)by omega,wrap_i64 (by omega) (by omega)]
 have e:AA [] [V.int .u32 (x:Int),V.int .i64 (-(n:Int))]=[V.int .u32 (x:Int),V.int .i64 (-(n:Int))]:=rfl
 simp only[ACX,ACY,ng,Option.bind_some,e,key]
 rfl
theorem APx {h:List V} {x:Nat} (hx:x<4294967296) (n:Nat) (h1:1≤n) (h2:n≤31):Cl 156 (AA h [.int .u32 (x:Int),.int .i64 (n:Int)]) []=some (.int .u32 (D6 x n:Int),[]):=AJm hx n h1 h2
theorem JA {l:List Nat} {i:Nat} (hi:i<l.length):(Kw l)[i]?=some (vw (l.getD i 0)):=by
 simp[Kw,List.getElem?_map,List.getElem?_eq_getElem hi]
theorem B32.get {l:List Nat} (h:B32 l) (i:Nat):l.getD i 0<4294967296:=by
 rcases Nat.lt_or_ge i l.length with hi|hi
 ·rw[List.getD_eq_getElem?_getD,List.getElem?_eq_getElem hi];exact h _ (List.getElem_mem hi)
 ·rw[List.getD_eq_getElem?_getD,List.getElem?_eq_none hi];decide
theorem ACi (l:List Nat) (i x:Nat):(Kw l).set i (vw x)=Kw (l.set i x):=by simp[Kw,List.map_set]
theorem ANl {id i:Nat} (hi:i<64):AX P 204 (.ref id [] 204) (.int .i64 (i:Int))=some (.ref id [i] 149):=by
 have:inside (i:Int) 64=true:=by simp[inside];omega
 simp[AX,ALu,this]
theorem ix8 {id i:Nat} (hi:i<8):AX P 184 (.ref id [] 184) (.int .i64 (i:Int))=some (.ref id [i] 149):=by
 have:inside (i:Int) 8=true:=by simp[inside];omega
 simp[AX,NI,this]
theorem ixK {i:Nat} (hi:i<64) {l:List Nat} (hl:l.length=64):AX P 204 (.rop 204 (SH l)) (.int .i64 (i:Int))=some (.rop 149 (vw (l.getD i 0))):=by
 have:inside (i:Int) 64=true:=by simp[inside];omega
 simp[AX,ALu,this,SH,JA (show i<l.length by omega)]
theorem APy (x:Nat):BJ P 149 (vw x)=true:=by simp[BJ,ALt,BK,Vj,vw]
theorem ASm {h:List V} {id i:Nat} {l:List Nat} (hh:h[id]?=some (SH l)) (hi:i<l.length):AY h 149 (.ref id [i] 149)=some (vw (l.getD i 0)):=BG (J4 hh (JA hi))
theorem ld8 {h:List V} {id i:Nat} {l:List Nat} (hh:h[id]?=some (A8 l)) (hi:i<l.length):AY h 149 (.ref id [i] 149)=some (vw (l.getD i 0)):=BG (J4 hh (JA hi))
theorem APz {h:List V} {id i x:Nat} {l:List Nat} (hh:h[id]?=some (SH l)) (hi:i<l.length):D8 P h 149 (.ref id [i] 149) (vw x)=some (h.set id (SH (l.set i x))):=by
 rw[G7 hh (JA hi) (APy x) rfl,ACi];rfl
theorem st8 {h:List V} {id i x:Nat} {l:List Nat} (hh:h[id]?=some (A8 l)) (hi:i<l.length):D8 P h 149 (.ref id [i] 149) (vw x)=some (h.set id (A8 (l.set i x))):=by
 rw[G7 hh (JA hi) (APy x) rfl,ACi];rfl
def wordAt (p:List UInt8) (t:Nat):Nat:=((p.getD (4*t) 0).toNat*2^24%4294967296|||(p.getD (4*t+1) 0).toNat*2^16%4294967296)|||(p.getD (4*t+2) 0).toNat*2^8%4294967296|||(p.getD (4*t+3) 0).toNat
def Jd (p:List UInt8):Nat→Nat→List Nat→List Nat
 |0,_,w=>w
 |n+1,t,w=>Jd p n (t+1) (w.set t (wordAt p t))
theorem MC (p:List UInt8) (t:Nat):wordAt p t<4294967296:=by
 have h3:(p.getD (4*t+3) 0).toNat<2^32:=Nat.lt_of_lt_of_le (UInt8.toNat_lt _) (by decide)
 refine Nat.or_lt_two_pow (n:=32) (Nat.or_lt_two_pow (n:=32) (Nat.or_lt_two_pow (n:=32) (Nat.mod_lt _ (by decide)) (Nat.mod_lt _ (by decide))) (Nat.mod_lt _ (by decide))) h3
theorem B32.set {l:List Nat} (h:B32 l) (i:Nat) {x:Nat} (hx:x<4294967296):B32 (l.set i x):=by
 intro y hy
 rcases List.mem_or_eq_of_mem_set hy with hy|rfl
 ·exact h y hy
 ·exact hx
theorem X4 (p:List UInt8):∀(n t:Nat) (w:List Nat),B32 w→w.length=64→B32 (Jd p n t w)∧(Jd p n t w).length=64
 |0,_,w,h,hl=>⟨h,hl⟩
 |n+1,t,w,h,hl=>X4 p n (t+1) _ (h.set t (MC p t)) (by simp[hl])
theorem MF {p:List UInt8} {i:Nat} (hi:i<p.length):(bytesOf p)[i]?=some (.int .u8 ((p.getD i 0).toNat:Int)):=by
 simp[bytesOf,List.getElem?_map,List.getElem?_eq_getElem hi]
theorem ixB {xs:List V} {f:Fl} {i:Nat} {v:V} (hv:xs[i]?=some v):AX P 68 (.lst 5 f xs) (.int .i64 (i:Int))=some (.rop 5 v):=by
 have hi:=IJ hv
 have:inside (i:Int) xs.length=true:=by simp[inside,hi]
 simp[AX,F5,this,hv]
theorem ixW {xs:List V} {f:Fl} {i:Nat} {v:V} (hv:xs[i]?=some v):AX P 68 (V.weak (.lst 5 f xs)) (.int .i64 (i:Int))=some (.rop 5 v):=by
 cases f<;>exact ixB hv
theorem AJn {h:List V} {f:Fl} {p:List UInt8} {t:Nat} {l:List Nat} (hp:4*t+4≤p.length) (ht:t<64) (hh:h[2]?=some (SH l)) (hl:l.length=64) (K:List V→Option (V×List V)):
 Va (.ref 2 [] 204) (.int .i64 (t:Int)) (.lst 5 f (((bytesOf p).take (4*t+4)).drop (4*t))) h K=K (h.set 2 (SH (l.set t (wordAt p t)))):=by
 have g:∀j,j<4→(((bytesOf p).take (4*t+4)).drop (4*t))[j]?=some (.int .u8 ((p.getD (4*t+j) 0).toNat:Int)):=by
  intro j hj
  rw[List.getElem?_drop,List.getElem?_take_of_lt (by omega),MF (by omega)]
 have i0:=ixW (f:=f) (g 0 (by omega));have i1:=ixW (f:=f) (g 1 (by omega));have i2:=ixW (f:=f) (g 2 (by omega));have i3:=ixW (f:=f) (g 3 (by omega))
 have b:∀j,(p.getD j 0).toNat<256:=fun j=>UInt8.toNat_lt _
 have c:∀x:Nat,x<256→conv P h 5 149 (.int .u8 (x:Int))=some (.int .u32 (x:Int)):=fun x hx=>by rw[BQ Vj,wrap_u32 (by omega) (by omega)]
 have s24:∀x:Nat,AO .shl (.int .u32 (x:Int)) (.int .u64 24)=some (.int .u32 ((x*2^24%4294967296:Nat):Int)):=fun x=>OX (a:=x) 24 (by omega)
 have s16:∀x:Nat,AO .shl (.int .u32 (x:Int)) (.int .u64 16)=some (.int .u32 ((x*2^16%4294967296:Nat):Int)):=fun x=>OX (a:=x) 16 (by omega)
 have s8:∀x:Nat,AO .shl (.int .u32 (x:Int)) (.int .u64 8)=some (.int .u32 ((x*2^8%4294967296:Nat):Int)):=fun x=>OX (a:=x) 8 (by omega)
 have m:∀x:Nat,x%4294967296<4294967296:=fun x=>Nat.mod_lt _ (by decide)
 have o1:=Nat.or_lt_two_pow (n:=32) (m ((p.getD (4*t+0) 0).toNat*2^24)) (m ((p.getD (4*t+1) 0).toNat*2^16))
 have o2:=Nat.or_lt_two_pow (n:=32) o1 (m ((p.getD (4*t+2) 0).toNat*2^8))
 simp only[Va]
 rw[show(0:Int)=((0:Nat):Int)from rfl,show(1:Int)=((1:Nat):Int)from rfl,show(2:Int)=((2:Nat):Int)from rfl,show(3:Int)=((3:Nat):Int)from rfl,i0,i1,i2,i3]
 simp only[Option.bind_some,Kq,c _ (b _),s24,s16,s8]
 rw[u32_or (m _) (m _)]
 simp only[Option.bind_some]
 rw[u32_or o1 (m _)]
 simp only[Option.bind_some]
 rw[u32_or o2 (by have:=b (4*t+3);omega)]
 simp only[Option.bind_some]
 rw[ANl ht,Option.bind_some]
 exact(congrArg (fun z=>Option.bind z fun h_1=>K h_1) (APz (x:=wordAt p t) hh (by omega))).trans rfl
end
section
open Go AM
def sg0 (x:Nat):Nat:=(D6 x 7 ^^^ D6 x 18) ^^^ x/2^3
def sg1 (x:Nat):Nat:=(D6 x 17 ^^^ D6 x 19) ^^^ x/2^10
def ad (a b:Nat):Nat:=(a+b)%4294967296
def Je:Nat→Nat→List Nat→List Nat
 |0,_,w=>w
 |n+1,t,w=>Je n (t+1) (w.set t (ad (ad (ad (w.getD (t-16) 0) (w.getD (t-7) 0)) (sg0 (w.getD (t-15) 0))) (sg1 (w.getD (t-2) 0))))
theorem Tq (a b:Nat):ad a b<4294967296:=Nat.mod_lt _ (by decide)
theorem DR {a b:Nat} (ha:a<4294967296) (hb:b<4294967296):a ^^^ b<4294967296:=Nat.xor_lt_two_pow (n:=32) ha hb
theorem AGj {a b:Nat} (ha:a<4294967296) (hb:b<4294967296):a|||b<4294967296:=Nat.or_lt_two_pow (n:=32) ha hb
theorem Dn {a b:Nat} (ha:a<4294967296):a&&& b<4294967296:=Nat.lt_of_le_of_lt Nat.and_le_left ha
theorem JB {a:Nat} (n:Nat) (ha:a<4294967296):a/n<4294967296:=Nat.lt_of_le_of_lt (Nat.div_le_self _ _) ha
theorem FV (a b:Nat):AO .add (.int .u32 (a:Int)) (.int .u32 (b:Int))=some (.int .u32 (ad a b:Int)):=AJl a b
theorem X5:∀(n t:Nat) (w:List Nat),B32 w→w.length=64→B32 (Je n t w)∧(Je n t w).length=64
 |0,_,w,h,hl=>⟨h,hl⟩
 |n+1,t,w,h,hl=>X5 n (t+1) _ (h.set t (Tq _ _)) (by simp[hl])
def rnd (k:List Nat) (w:List Nat) (t:Nat) (v:List Nat):List Nat:=
 let a:=v.getD 0 0;let b:=v.getD 1 0;let c:=v.getD 2 0;let e:=v.getD 4 0;let f:=v.getD 5 0;let g:=v.getD 6 0
 let x:=ad (ad (ad (ad (v.getD 7 0) ((D6 e 6 ^^^ D6 e 11) ^^^ D6 e 25)) (g ^^^ (e&&& (f ^^^ g)))) (k.getD t 0)) (w.getD t 0)
 let y:=ad ((D6 a 2 ^^^ D6 a 13) ^^^ D6 a 22) ((a&&& b)|||(c&&& (a|||b)))
 [ad x y,a,b,c,ad (v.getD 3 0) x,e,f,g]
def QV (k w:List Nat):Nat→Nat→List Nat→List Nat
 |0,_,v=>v
 |n+1,t,v=>QV k w n (t+1) (rnd k w t v)
def MG (v:List Nat):Nat→Nat→List Nat→List Nat
 |0,_,h=>h
 |n+1,i,h=>MG v n (i+1) (h.set i (ad (h.getD i 0) (v.getD i 0)))
def BZ:List Nat:=(match Ov with|V.agg _ l=>l|_=>[]).map fun v=>match v with|V.int _ n=>n.toNat|_=>0
theorem AJp:Ov=SH BZ:=by kernel_rfl
theorem ALv:BZ.length=64:=by kernel_rfl
theorem ALw:B32 BZ:=by
 have h:BZ.all (fun x=>decide (x<4294967296))=true:=by kernel_rfl
 intro x hx
 have:=List.all_eq_true.1 h x hx
 exact of_decide_eq_true this
def Tt (h:List Nat) (p:List UInt8):List Nat:=
 let w:=Je 48 16 (Jd p 16 0 (List.replicate 64 0))
 MG (QV BZ w 64 0 h) 8 0 h
theorem Zj {k w v:List Nat} (hv:B32 v) (t:Nat):B32 (rnd k w t v)∧(rnd k w t v).length=8:=by
 refine⟨?_,rfl⟩
 intro x hx
 simp only[rnd,List.mem_cons,List.not_mem_nil,or_false]at hx
 rcases hx with rfl|rfl|rfl|rfl|rfl|rfl|rfl|rfl<;>first|exact Tq _ _|exact hv.get _
theorem ACj {v:List Nat}:∀(n i:Nat) (h:List Nat),B32 h→h.length=8→B32 (MG v n i h)∧(MG v n i h).length=8
 |0,_,h,hb,hl=>⟨hb,hl⟩
 |n+1,i,h,hb,hl=>ACj n (i+1) _ (hb.set i (Tq _ _)) (by simp[hl])
theorem Tv (h:List V):∀l:List Nat,CZ h (Kw l)=Kw l
 |[]=>rfl
 |x::l=>by simp only[Kw,List.map_cons,CZ];rw[show List.map vw l=Kw l from rfl,Tv h l];rfl
theorem X6:∀l:List Nat,AU (Kw l)=Kw l
 |[]=>rfl
 |x::l=>by simp only[Kw,List.map_cons,AU];rw[show List.map vw l=Kw l from rfl,X6 l];rfl
theorem Tz:∀l:List Nat,AV (Kw l)=true
 |[]=>rfl
 |x::l=>by simp only[Kw,List.map_cons,AV];rw[show List.map vw l=Kw l from rfl,Tz l];rfl
theorem X7 (n:Nat):∀l:List Nat,DK n (Kw l)=true
 |[]=>rfl
 |x::l=>by simp only[Kw,List.map_cons,DK];rw[show List.map vw l=Kw l from rfl,X7 n l];rfl
theorem FK (n:Nat):∀l:List Nat,Ac n (Kw l)=true
 |[]=>rfl
 |x::l=>by simp only[Kw,List.map_cons,Ac];rw[show List.map vw l=Kw l from rfl,FK n l];rfl
theorem ANn (n:Nat) (h:List V) (l:List Nat):AQ n h (A8 l)=some (A8 l,h.take n):=by
 simp only[AQ,A8,V.unmut,Tv,V.norm,X6,V.clean,Tz,V.over,X7,Bool.and_self,if_true]
theorem AJq (v:List Nat) (hv:v.length=8) (x w z:V):∀(n i:Nat) (hs:List Nat),i+n=8→hs.length=8→
 OM (.ref 0 [] 184) (.ref 1 [] 184) (A8 v) (.int .i64 (i:Int)) [A8 hs,A8 (List.replicate 8 0),w,z]=some (A8 (MG v n i hs),[]):=by
 intro n
 induction n with
 |zero=>
  intro i hs hi hl
  rw[QH]
  have:¬((i:Int)<8):=by omega
  have l0:AY [A8 hs,A8 (List.replicate 8 0),w,z] 184 (.ref 0 [] 184)=some (A8 hs):=BG (CS rfl)
  have s1:D8 P [A8 hs,A8 (List.replicate 8 0),w,z] 184 (.ref 1 [] 184) (A8 hs)=some [A8 hs,A8 hs,w,z]:=
   CB rfl (by simp[BJ,NI,A8]) (by simp only[A8,V.under];exact FK _ _)
  have l1:AY [A8 hs,A8 hs,w,z] 184 (.ref 1 [] 184)=some (A8 hs):=BG (CS rfl)
  simp only[QG,Xv,b_lss,Option.bind_some,FQ,this,if_false,l0,s1,l1,ANn,List.take_zero,MG]
 |succ n ih=>
  intro i hs hi hl
  rw[QH]
  have hlt:(i:Int)<8:=by omega
  have ix:GX P 184 (A8 v) (.int .i64 (i:Int))=some (vw (v.getD i 0)):=by
   have:inside (i:Int) 8=true:=by simp[inside];omega
   simp[GX,A8,NI,this,JA (show i<v.length by omega),cp,AGd]
  have l0:AY [A8 hs,A8 (List.replicate 8 0),w,z] 149 (.ref 0 [i] 149)=some (vw (hs.getD i 0)):=ld8 rfl (by omega)
  have s0:D8 P [A8 hs,A8 (List.replicate 8 0),w,z] 149 (.ref 0 [i] 149) (vw (ad (hs.getD i 0) (v.getD i 0)))=some [A8 (hs.set i (ad (hs.getD i 0) (v.getD i 0))),A8 (List.replicate 8 0),w,z]:=st8 rfl (by omega)
  have a0:AO .add (vw (hs.getD i 0)) (vw (v.getD i 0))=some (vw (ad (hs.getD i 0) (v.getD i 0))):=FV _ _
  simp only[QG,Xr,Xt,Xu,b_lss,Option.bind_some,FQ,hlt,if_true,ix,ix8 (show i<8 by omega),l0,a0,s0,Dt]
  rw[show((i:Int)+1)=((i+1:Nat):Int)by omega,wrap_i64 (by omega) (by omega)]
  exact ih (i+1) _ (by omega) (by simp[hl])
theorem ASn {id:Nat} (j:Nat) (hj:j<8):AX P 184 (.ref id [] 184) (.int .i64 (j:Int))=some (.ref id [j] 149):=ix8 hj
theorem at8 {B:Type} {h:List V} {id:Nat} {v:List Nat} (hh:h[id]?=some (A8 v)) (hv:v.length=8) (j:Nat) (hj:j<8) (K:V→Option B):
 (AX P 184 (.ref id [] 184) (.int .i64 (j:Int))).bind (fun a=>(AY h 149 a).bind K)=K (.int .u32 (v.getD j 0:Int)):=by
 rw[ASn j hj,Option.bind_some,ld8 hh (by omega),Option.bind_some];rfl
theorem Vo {B:Type} {h:List V} {id:Nat} {v:List Nat} (hh:h[id]?=some (SH v)) (hv:v.length=64) (j:Nat) (hj:j<64) (K:V→Option B):
 (AX P 204 (.ref id [] 204) (.int .i64 (j:Int))).bind (fun a=>(AY h 149 a).bind K)=K (.int .u32 (v.getD j 0:Int)):=by
 rw[ANl hj,Option.bind_some,ASm hh (by omega),Option.bind_some];rfl
theorem atK {B:Type} {h:List V} (j:Nat) (hj:j<64) (K:V→Option B):
 (AX P 204 (.rop 204 Ov) (.int .i64 (j:Int))).bind (fun a=>(AY h 149 a).bind K)=K (.int .u32 (BZ.getD j 0:Int)):=by
 rw[AJp,ixK hj ALv,Option.bind_some,Kq,Option.bind_some];rfl
theorem trn {B:Type} {h:List V} {x:Nat} (hx:x<4294967296) (m:Nat) (h1:1≤m) (h2:m≤31) (K:V×List V→Option B):
 (Cl 156 (AA h [.int .u32 (x:Int),.int .i64 (m:Int)]) []).bind K=K (.int .u32 (D6 x m:Int),[]):=by
 rw[APx hx m h1 h2,Option.bind_some]
theorem AB {A B:Type} {o:Option A} {x:A} (h:o=some x) (K:A→Option B):o.bind K=K x:=by rw[h];rfl
theorem EY {B:Type} {k:IntKind} {a b:Int} (h:a<b) (K:V→Option B):(AO .lss (.int k a) (.int k b)).bind K=K (.bool true):=by
 rw[b_lss,Option.bind_some,decide_eq_true h]
theorem E8 {B:Type} {k:IntKind} {a b:Int} (h:¬a<b) (K:V→Option B):(AO .lss (.int k a) (.int k b)).bind K=K (.bool false):=by
 rw[b_lss,Option.bind_some,decide_eq_false h]
theorem Au {B:Type} (a b:Option B):V.ite (.bool true) a b=a:=rfl
theorem A7 {B:Type} (a b:Option B):V.ite (.bool false) a b=b:=rfl
theorem AGk {h:List V} {v:List Nat} (hh:h[3]?=some (A8 v)) (hv:v.length=8) (K:V→V→V→V→V→V→Option (V×List V)):
 QC (.ref 3 [] 184) h K=K (vw (v.getD 0 0)) (vw (v.getD 1 0)) (vw (v.getD 2 0)) (vw (v.getD 4 0)) (vw (v.getD 5 0)) (vw (v.getD 6 0)):=by
 unfold QC
 exact(at8 hh hv 0 (by omega) _).trans<|(at8 hh hv 1 (by omega) _).trans<|(at8 hh hv 2 (by omega) _).trans<|(at8 hh hv 4 (by omega) _).trans<|(at8 hh hv 5 (by omega) _).trans<|(at8 hh hv 6 (by omega) _)
def chE (e f g h7 k w:Nat):Nat:=ad (ad (ad (ad h7 ((D6 e 6 ^^^ D6 e 11) ^^^ D6 e 25)) (g ^^^ (e&&& (f ^^^ g)))) k) w
def mjA (a b c:Nat):Nat:=ad ((D6 a 2 ^^^ D6 a 13) ^^^ D6 a 22) ((a&&& b)|||(c&&& (a|||b)))
theorem AGl {h:List V} {v w:List Nat} {t e f g:Nat} (hh:h[3]?=some (A8 v)) (hv:v.length=8) (hw:h[2]?=some (SH w)) (lw:w.length=64) (ht:t<64)
 (be:e<4294967296) (bf:f<4294967296) (bg:g<4294967296) (K:V→Option (V×List V)):
 QD (.ref 2 [] 204) (.ref 3 [] 184) (.int .i64 (t:Int)) (vw e) (vw f) (vw g) h K=K (vw (chE e f g (v.getD 7 0) (BZ.getD t 0) (w.getD t 0))):=by
 have r1:=Af (n:=6) be;have r2:=Af (n:=11) be;have r3:=Af (n:=25) be
 unfold QD
 refine(at8 hh hv 7 (by omega) _).trans ?_
 refine(trn be 6 (by omega) (by omega) _).trans<|(trn be 11 (by omega) (by omega) _).trans ?_
 refine(AB (u32_xor r1 r2) _).trans ?_
 refine(trn be 25 (by omega) (by omega) _).trans ?_
 refine(AB (u32_xor (DR r1 r2) r3) _).trans ?_
 refine(AB (FV _ _) _).trans ?_
 refine(AB (u32_xor bf bg) _).trans ?_
 refine(AB (u32_and be (DR bf bg)) _).trans ?_
 refine(AB (u32_xor bg (Dn be)) _).trans ?_
 refine(AB (FV _ _) _).trans ?_
 refine(atK t ht _).trans ?_
 refine(AB (FV _ _) _).trans ?_
 refine(Vo hw lw t ht _).trans ?_
 exact AB (FV _ _) _
theorem AGm {h:List V} {a b c:Nat} (ba:a<4294967296) (bb:b<4294967296) (bc:c<4294967296) (K:V→Option (V×List V)):
 QE (vw a) (vw b) (vw c) h K=K (vw (mjA a b c)):=by
 have r1:=Af (n:=2) ba;have r2:=Af (n:=13) ba;have r3:=Af (n:=22) ba
 unfold QE
 refine(trn ba 2 (by omega) (by omega) _).trans<|(trn ba 13 (by omega) (by omega) _).trans ?_
 refine(AB (u32_xor r1 r2) _).trans ?_
 refine(trn ba 22 (by omega) (by omega) _).trans ?_
 refine(AB (u32_xor (DR r1 r2) r3) _).trans ?_
 refine(AB (u32_and ba bb) _).trans ?_
 refine(AB (u32_or ba bb) _).trans ?_
 refine(AB (u32_and bc (AGj ba bb)) _).trans ?_
 refine(AB (u32_or (Dn ba) (Dn bc)) _).trans ?_
 exact AB (FV _ _) _
theorem ASp (z0 z1 z2 z3 z4 z5 z6 z7:Nat):WU P 184 [(0,.int .u32 (z0:Int)),(1,.int .u32 (z1:Int)),(2,.int .u32 (z2:Int)),(3,.int .u32 (z3:Int)),(4,.int .u32 (z4:Int)),(5,.int .u32 (z5:Int)),(6,.int .u32 (z6:Int)),(7,.int .u32 (z7:Int))]=some (A8 [z0,z1,z2,z3,z4,z5,z6,z7]):=by
 simp[WU,NI,Zg,Bc,BJ,ALt,BK,Vj,cp,AGd,A8,Kw,vw,List.replicate]
theorem AGn {h:List V} {v:List Nat} {a b c e f g x y:Nat} (hh:h[3]?=some (A8 v)) (hv:v.length=8) (K:List V→Option (V×List V)):
 QF (.ref 3 [] 184) (vw a) (vw b) (vw c) (vw e) (vw f) (vw g) (vw x) (vw y) h K=K (h.set 3 (A8 [ad x y,a,b,c,ad (v.getD 3 0) x,e,f,g])):=by
 unfold QF
 refine(AB (FV _ _) _).trans ?_
 refine(at8 hh hv 3 (by omega) _).trans ?_
 refine(AB (FV _ _) _).trans ?_
 refine(AB (ASp _ _ _ _ _ _ _ _) _).trans ?_
 exact AB (CB hh (by simp[BJ,NI,A8]) (by simp only[A8,V.under];exact FK _ _)) _
theorem AGo (k w v:List Nat) (t:Nat):rnd k w t v=[ad (chE (v.getD 4 0) (v.getD 5 0) (v.getD 6 0) (v.getD 7 0) (k.getD t 0) (w.getD t 0)) (mjA (v.getD 0 0) (v.getD 1 0) (v.getD 2 0)),v.getD 0 0,v.getD 1 0,v.getD 2 0,
 ad (v.getD 3 0) (chE (v.getD 4 0) (v.getD 5 0) (v.getD 6 0) (v.getD 7 0) (k.getD t 0) (w.getD t 0)),v.getD 4 0,v.getD 5 0,v.getD 6 0]:=rfl
theorem AGp (k w:List Nat) (n t:Nat) (v:List Nat):QV k w (n+1) t v=QV k w n (t+1) (rnd k w t v):=rfl
theorem AJr (h w:List Nat) (hh:h.length=8) (hw:w.length=64) (bw:B32 w):∀(n t:Nat) (v:List Nat),t+n=64→B32 v→v.length=8→
 OL (.ref 0 [] 184) (.ref 1 [] 184) (.ref 2 [] 204) (.ref 3 [] 184) (.int .i64 (t:Int)) [A8 h,A8 (List.replicate 8 0),SH w,A8 v]=
  some (A8 (MG (QV BZ w n t v) 8 0 h),[]):=by
 intro n
 induction n with
 |zero=>
  intro t v ht bv hv
  rw[QI]
  have:¬((t:Int)<64):=by omega
  have l3:AY [A8 h,A8 (List.replicate 8 0),SH w,A8 v] 184 (.ref 3 [] 184)=some (A8 v):=BG (CS rfl)
  simp only[QB,Xq,b_lss,Option.bind_some,FQ,this,if_false,l3,QV]
  exact AJq v hv (A8 v) (SH w) (A8 v) 8 0 h rfl hh
 |succ n ih=>
  intro t v ht bv hv
  rw[QI]
  have hlt:(t:Int)<64:=by omega
  have ht':t<64:=by omega
  rw[QB,EY hlt,Au,Xo]
  rw[AGk rfl hv,AGl rfl hv rfl hw ht' (bv.get 4) (bv.get 5) (bv.get 6),AGm (bv.get 0) (bv.get 1) (bv.get 2),AGn rfl hv,←AGo]
  simp only[Xp,Dt]
  rw[show((t:Int)+1)=((t+1:Nat):Int)by omega,wrap_i64 (by omega) (by omega),AGp]
  have st:[A8 h,A8 (List.replicate 8 0),SH w,A8 v].set 3 (A8 (rnd BZ w t v))=[A8 h,A8 (List.replicate 8 0),SH w,A8 (rnd BZ w t v)]:=rfl
  rw[st]
  exact ih (t+1) _ (by omega) (Zj bv t).1 (Zj bv t).2
end
section
open Go AM
theorem IK {B:Type} {a b:Nat} (h:b≤a) (ha:a<2^62) (K:V→Option B):(AO .sub (.int .i64 (a:Int)) (.int .i64 (b:Int))).bind K=K (.int .i64 ((a-b:Nat):Int)):=by
 rw[Jc,show(a:Int)-(b:Int)=((a-b:Nat):Int)by omega,wrap_i64 (by omega) (by omega)];rfl
theorem FC {B:Type} {a b:Nat} (h:a+b<2^62) (K:V→Option B):(AO .add (.int .i64 (a:Int)) (.int .i64 (b:Int))).bind K=K (.int .i64 ((a+b:Nat):Int)):=by
 rw[Dt,show(a:Int)+(b:Int)=((a+b:Nat):Int)by omega,wrap_i64 (by omega) (by omega)];rfl
theorem X8 {B:Type} {a b:Nat} (h:a*b<2^62) (K:V→Option B):(AO .mul (.int .i64 (a:Int)) (.int .i64 (b:Int))).bind K=K (.int .i64 ((a*b:Nat):Int)):=by
 rw[QN,←Int.natCast_mul,wrap_i64 (by omega) (by omega)];rfl
theorem ANo {f:Fl} {t s:TypeId} {xs:List V} {a b:Nat} (k:K P s= .slice t) (h1:a≤b) (h2:b≤xs.length):
 JY P s (V.weak (.lst t f xs)) (some (.int .i64 (a:Int))) (some (.int .i64 (b:Int))) none=some (.lst t f.cut ((xs.take b).drop a)):=by
 have e1:(0:Int)≤(b:Int)∧b≤xs.length:=⟨by omega,h2⟩
 have e2:(0:Int)≤(a:Int)∧(a:Int)≤(b:Int):=⟨by omega,by omega⟩
 cases f<;>simp[JY,V.weak,k,Bh,e1,e2,Fl.cut,h1,h2]
section
variable {h:List V} {w:List Nat} {t:Nat}
variable (hw:h[2]?=some (SH w)) (lw:w.length=64) (bw:B32 w) (ht:t<64)
include hw lw bw ht
theorem AGq (h16:16≤t) (K:V→Option (V×List V)):
 P8 (.ref 2 [] 204) (.int .i64 (t:Int)) h K=K (vw (sg0 (w.getD (t-15) 0))):=by
 have b:=bw.get (t-15)
 unfold P8
 refine(IK (b:=15) (by omega) (by omega) _).trans<|(Vo hw lw (t-15) (by omega) _).trans<|(trn b 7 (by omega) (by omega) _).trans ?_
 refine(IK (b:=15) (by omega) (by omega) _).trans<|(Vo hw lw (t-15) (by omega) _).trans<|(trn b 18 (by omega) (by omega) _).trans ?_
 refine(AB (u32_xor (Af b) (Af b)) _).trans ?_
 refine(IK (b:=15) (by omega) (by omega) _).trans<|(Vo hw lw (t-15) (by omega) _).trans ?_
 refine(AB (OW 3 (by omega)) _).trans ?_
 exact AB (u32_xor (DR (Af b) (Af b)) (JB _ b)) _
theorem AGr (h16:16≤t) (K:V→Option (V×List V)):
 P9 (.ref 2 [] 204) (.int .i64 (t:Int)) h K=K (vw (sg1 (w.getD (t-2) 0))):=by
 have b:=bw.get (t-2)
 unfold P9
 refine(IK (b:=2) (by omega) (by omega) _).trans<|(Vo hw lw (t-2) (by omega) _).trans<|(trn b 17 (by omega) (by omega) _).trans ?_
 refine(IK (b:=2) (by omega) (by omega) _).trans<|(Vo hw lw (t-2) (by omega) _).trans<|(trn b 19 (by omega) (by omega) _).trans ?_
 refine(AB (u32_xor (Af b) (Af b)) _).trans ?_
 refine(IK (b:=2) (by omega) (by omega) _).trans<|(Vo hw lw (t-2) (by omega) _).trans ?_
 refine(AB (OW 10 (by omega)) _).trans ?_
 exact AB (u32_xor (DR (Af b) (Af b)) (JB _ b)) _
theorem AGt (h16:16≤t) (x y:Nat) (K:List V→Option (V×List V)):
 QA (.ref 2 [] 204) (.int .i64 (t:Int)) (vw x) (vw y) h K=K (h.set 2 (SH (w.set t (ad (ad (ad (w.getD (t-16) 0) (w.getD (t-7) 0)) x) y)))):=by
 unfold QA
 refine(IK (b:=16) (by omega) (by omega) _).trans<|(Vo hw lw (t-16) (by omega) _).trans ?_
 refine(IK (b:=7) (by omega) (by omega) _).trans<|(Vo hw lw (t-7) (by omega) _).trans ?_
 refine(AB (FV _ _) _).trans ?_
 refine(AB (FV _ _) _).trans ?_
 refine(AB (FV _ _) _).trans ?_
 refine(AB (ANl ht) _).trans ?_
 exact AB (APz hw (by omega)) _
end
theorem ACk (n t:Nat) (w:List Nat):Je (n+1) t w=Je n (t+1) (w.set t (ad (ad (ad (w.getD (t-16) 0) (w.getD (t-7) 0)) (sg0 (w.getD (t-15) 0))) (sg1 (w.getD (t-2) 0)))):=rfl
theorem AJs (p:List UInt8) (n t:Nat) (w:List Nat):Jd p (n+1) t w=Jd p n (t+1) (w.set t (wordAt p t)):=rfl
theorem AJt (h:List Nat) (hh:h.length=8) (bh:B32 h):∀(n t:Nat) (w:List Nat),t+n=64→16≤t→B32 w→w.length=64→
 OJ (.ref 0 [] 184) (.ref 1 [] 184) (.ref 2 [] 204) (.int .i64 (t:Int)) [A8 h,A8 (List.replicate 8 0),SH w]=
  some (A8 (MG (QV BZ (Je n t w) 64 0 h) 8 0 h),[]):=by
 intro n
 induction n with
 |zero=>
  intro t w ht h16 bw lw
  rw[QJ,Vb,E8 (by omega),A7,Xn]
  have z:zero P 184=A8 (List.replicate 8 0):=by rw[Zg];rfl
  have l0:AY [A8 h,A8 (List.replicate 8 0),SH w] 184 (.ref 0 [] 184)=some (A8 h):=BG (CS rfl)
  rw[l0,z]
  refine(AB (CB (h:=[A8 h,A8 (List.replicate 8 0),SH w]++[A8 (List.replicate 8 0)]) rfl (by simp[BJ,NI,A8]) (by simp only[A8,V.under];exact FK _ _)) _).trans ?_
  exact AJr h w hh lw bw 64 0 h rfl bh hh
 |succ n ih=>
  intro t w ht h16 bw lw
  rw[QJ,Vb,EY (by omega),Au,AGq rfl lw bw (by omega) h16,AGr rfl lw bw (by omega) h16,AGt rfl lw bw (by omega) h16,Xm,ACk]
  refine(FC (b:=1) (by omega) _).trans ?_
  exact ih (t+1) _ (by omega) (by omega) (bw.set t (Tq _ _)) (by simp[lw])
theorem AJu (h:List Nat) (hh:h.length=8) (bh:B32 h) (p:List UInt8) (hp:p.length=64) (f:Fl):∀(n t:Nat) (w:List Nat),t+n=16→B32 w→w.length=64→
 OI (.lst 5 f (bytesOf p)) (.ref 0 [] 184) (.ref 1 [] 184) (.ref 2 [] 204) (.int .i64 (t:Int)) [A8 h,A8 (List.replicate 8 0),SH w]=
  some (A8 (MG (QV BZ (Je 48 16 (Jd p n t w)) 64 0 h) 8 0 h),[]):=by
 intro n
 induction n with
 |zero=>
  intro t w ht bw lw
  rw[QK,VZ,E8 (by omega),A7,ACK]
  exact AJt h hh bh 48 16 w rfl (by omega) bw lw
 |succ n ih=>
  intro t w ht bw lw
  rw[QK,VZ,EY (by omega),Au,ACH,ACI]
  refine(X8 (a:=4) (by omega) _).trans<|(X8 (a:=4) (by omega) _).trans<|(FC (b:=4) (by omega) _).trans ?_
  refine(AB (ANo (f:=f) (t:=5) (xs:=bytesOf p) F5 (a:=4*t) (b:=4*t+4) (by omega) (by simp[bytesOf];omega)) _).trans ?_
  rw[AJn (by omega) (by omega) rfl lw,ACJ,AJs]
  refine(FC (b:=1) (by omega) _).trans ?_
  exact ih (t+1) _ (by omega) (bw.set t (MC p t)) (by simp[lw])
theorem AJv {h:List Nat} (hh:h.length=8) (bh:B32 h) {p:List UInt8} (hp:p.length=64) (f:Fl):
 Cl 136 [A8 h,.lst 5 f (bytesOf p)] []=some (A8 (Tt h p),[]):=by
 have tk:(BJ P 184 (A8 h)&&V.under (List.length ([]:List V)) (A8 h))=true:=by
  simp only[A8,V.under,FK,BJ,NI];simp
 rw[AJW,ACE,if_pos tk,ACF,ACG,Zg,ANd]
 have JI:B32 (List.replicate 64 0):=fun x hx=>by rw[List.eq_of_mem_replicate hx];decide
 exact AJu h hh bh p hp f 16 0 (List.replicate 64 0) rfl JI rfl
end
section
open Go AM
section
variable {B:Type} {s e u:TypeId} {f:Fl} {xs:List V} {h:List V}
theorem IL:∃g,V.weak (.lst e f xs)= .lst e g xs:=by cases f<;>exact⟨_,rfl⟩
theorem ADg (hu:P.underlying s=some (.slice u)) (K:V→Option B):(lenV P s (.lst e f xs)).bind K=K (.int .i64 (xs.length:Int)):=by
 simp[lenV,hu]
theorem Zk (hu:P.underlying s=some (.slice u)) (K:V→Option B):(lenV P s (V.weak (.lst e f xs))).bind K=K (.int .i64 (xs.length:Int)):=by
 obtain⟨g,hg⟩:=IL (e:=e) (f:=f) (xs:=xs);rw[hg];exact ADg hu K
theorem ADh (hk:K P s= .slice e) {i:Nat} {v:V} (hv:xs[i]?=some v) (K:V→Option B):
 (AX P s (.lst e f xs) (.int .i64 (i:Int))).bind K=K (.rop e v):=by
 have hi:=IJ hv
 have:inside (i:Int) xs.length=true:=by simp[inside,hi]
 simp[AX,hk,this,hv]
theorem ADi (hk:K P s= .slice e) {i:Nat} {v:V} (hv:xs[i]?=some v) (K:V→Option B):
 (AX P s (V.weak (.lst e f xs)) (.int .i64 (i:Int))).bind K=K (.rop e v):=by
 obtain⟨g,hg⟩:=IL (e:=e) (f:=f) (xs:=xs);rw[hg];exact ADh hk hv K
theorem ldR {v:V} (K:V→Option B):(AY h e (.rop e v)).bind K=K v:=by rw[Kq];rfl
theorem AJw {v:V} (K:V→Option B):(BL h e (.rop e v)).bind K=K v.weak:=by rw[BL,Kq];rfl
theorem Zl (hk:K P s= .slice e) (hf:f= .own∨f= .nil) {y:V} {ys:List V} (hy:Ad h y=some ys) (hc:AV ys=true) (ht:F8 P e ys=true) (hl:xs.length+ys.length≤2147483648) (hn:Ba P depth e=false) (hne:f= .nil→ys.isEmpty=false:=by first|(intro h;cases h;done)|(intro _;rfl)):
 DW P s h (.lst e f xs) y=some (.lst e .own (xs++ys)):=by
 rcases hf with rfl|rfl
 ·simp[DW,hk,hy,hc,ht,hl,Dh,DJ,hn]
 ·have:=hne rfl
  cases ys with
  |nil=>cases this
  |cons y0 ys0=>simp[DW,hk,hy,hc,ht,hl,Dh,DJ,hn]<;>exact decide_eq_true (by simpa using hl)
theorem ACl (hk:K P s= .slice e) {v:V} (ht:BJ P e v=true) (hc:v.clean=true) (hn:Ba P depth e=false) (hz:∃z,zero P e=z):
 Bv P s 1 [(0,v)]=some (.lst e .own [v]):=by
 simp[Bv,hk,Bc,ht,List.replicate,cp,hn,AV,hc,DJ]
end
def bL (f:Fl) (l:List UInt8):V:= .lst 5 f (bytesOf l)
theorem Ak (l:List UInt8):(bytesOf l).length=l.length:=by simp[bytesOf]
theorem IQ (a b:List UInt8):bytesOf (a++b)=bytesOf a++bytesOf b:=by simp[bytesOf]
theorem bytesOf_take (n:Nat) (a:List UInt8):(bytesOf a).take n=bytesOf (a.take n):=by simp[bytesOf,List.map_take]
theorem bytesOf_drop (n:Nat) (a:List UInt8):(bytesOf a).drop n=bytesOf (a.drop n):=by simp[bytesOf,List.map_drop]
theorem CU:∀l:List UInt8,AV (bytesOf l)=true
 |[]=>rfl
 |x::l=>by simp only[bytesOf,List.map_cons,AV];rw[show List.map _ l=bytesOf l from rfl,CU l];rfl
theorem OY (x:Int):BJ P 5 (.int .u8 x)=true:=by simp[BJ,K_5,BK,NH]
theorem Eu (l:List UInt8):F8 P 5 (bytesOf l)=true:=by
 simp[F8,bytesOf,OY]
theorem Jf {B:Type} {f:Fl} {l:List UInt8} (K':V→Option B):(lenV P 68 (V.weak (bL f l))).bind K'=K' (.int .i64 (l.length:Int)):=by
 rw[bL,Zk J3,Ak]
theorem AP0 {B:Type} {f:Fl} {l:List UInt8} (K':V→Option B):(lenV P 68 (bL f l)).bind K'=K' (.int .i64 (l.length:Int)):=by
 rw[bL,ADg J3,Ak]
theorem ANp {f:Fl} {h:List V} {l m:List UInt8} {g:Fl} (hf:f= .own∨f= .nil) (hl:l.length+m.length≤2147483648) (hne:f= .nil→m.isEmpty=false:=by first|(intro h;cases h;done)|(intro _;rfl)):
 DW P 68 h (bL f l) (bL g m)=some (bL .own (l++m)):=by
 rw[bL,Zl F5 hf (y:=bL g m) (ys:=bytesOf m) rfl (CU m) (Eu m) (by simpa [Ak]using hl) Vf (fun h=>by have:=hne h;cases m<;>first|(cases this;done)|rfl),bL,IQ]
theorem X9 (x:Nat) (hx:x<256):Bv P 68 1 [(0,.int .u8 (x:Int))]=some (bL .own [UInt8.ofNat x]):=by
 rw[ACl F5 (OY _) rfl Vf ⟨_,rfl⟩,bL]
 simp[bytesOf,Nat.mod_eq_of_lt hx]
theorem app1 {B:Type} {f:Fl} {h:List V} {l:List UInt8} (hf:f= .own∨f= .nil) (hl:l.length+1≤2147483648) (x:Nat) (hx:x<256) (K':V→Option B):
 (Bv P 68 1 [(0,.int .u8 (x:Int))]).bind (fun y=>(DW P 68 h (bL f l) y).bind K')=K' (bL .own (l++[UInt8.ofNat x])):=by
 rw[X9 x hx]
 exact AB (ANp hf (by simpa using hl) (fun _=>rfl)) K'
end
section
open Go AM
def part (p:Fl×List UInt8):V:=bL p.1 p.2
def parts (L:List (Fl×List UInt8)):List V:=L.map part
def flat (L:List (Fl×List UInt8)):List UInt8:=(L.map (·.2)).flatten
theorem FW:∀l:List UInt8,AU (bytesOf l)=bytesOf l
 |[]=>rfl
 |x::l=>by simp only[bytesOf,List.map_cons,AU];rw[show List.map _ l=bytesOf l from rfl,FW l];rfl
theorem UA {L:List (Fl×List UInt8)} {i:Nat} (hi:i<L.length):(parts L)[i]?=some (part L[i]):=by
 simp[parts,hi]
theorem JC (p:Fl×List UInt8):∃g,(part p).weak=bL g p.2:=by
 obtain⟨f,l⟩:=p;exact IL
theorem AGu {s e:TypeId} {id off len a:Nat} {p:List Nat} (k:K P s= .slice e) (h1:a≤len):
 JY P s (V.weak (.win id p off len e)) (some (.int .i64 (a:Int))) none none=some (.win id p (off+a) (len-a) e):=by
 have e2:(0:Int)≤(a:Int)∧(a:Int)≤(len:Int):=⟨by omega,by omega⟩
 simp[JY,V.weak,k,Bh,e2,h1]
theorem Zm {e:TypeId} {s:TypeId} {off len:Nat} {xs ys:List V} {y:V} (k:K P s= .slice e) (hy:Ad [.row e xs] y=some ys) (hc:AV ys=true) (ht:F8 P e ys=true) (hn:Ba P depth e=false) (hl:ys.length≤len):
 cpy P s [.row e xs] (.win 0 [] off len e) y=some (.int .i64 (ys.length:Int),[.row e (xs.take off++ys++xs.drop (off+ys.length))]):=by
 have m:min ys.length len=ys.length:=by omega
 simp[cpy,EI,k,hy,hc,ht,rd,V.at,V.items,wr,V.upd,DJ,hn,m]
theorem J5 (p:Fl×List UInt8) (L:List (Fl×List UInt8)):flat (p::L)=p.2++flat L:=rfl
theorem AJx (fs:Fl) (L:List (Fl×List UInt8)) (hL:L.length<2147483648) (f:Fl) (N:Nat) (hN:N<2147483648) (h0:0<N):∀(n i:Nat) (done:List UInt8),i+n=L.length→N=done.length+(flat (L.drop i)).length→
 OH (.lst 5 fs []) (.win 0 [] 0 N 5) (.int .i64 (done.length:Int)) (.lst 68 f (parts L)) (.int .i64 (L.length:Int)) (.int .i64 (i:Int)) [.row 5 (bytesOf done++List.replicate (N-done.length) .undef)]=
  some (bL .own (done++flat (L.drop i)),[]):=by
 intro n
 induction n with
 |zero=>
  intro i done hi hn
  have hd:L.drop i=[]:=by simp;omega
  rw[hd]at hn⊢
  simp only[flat,List.map_nil,List.flatten_nil,List.length_nil,Nat.add_zero,List.append_nil]at hn⊢
  subst hn
  rw[P6,P5,E8 (by omega),A7,Xl]
  have c:Ad [V.row 5 (bytesOf done)] (.win 0 [] 0 done.length 5)=some (bytesOf done):=by
   simp[Ad,rd,V.at,V.items,Ak]
   rw[List.take_of_length_le (by simp[Ak])]
  simp[Nr,c,CU,FW,bL,Nat.ble,Nat.blt,Nat.ble_eq]
  exact List.ne_nil_of_length_pos h0
 |succ n ih=>
  intro i done hi hn
  have hlt:i<L.length:=by omega
  rw[P6,P5,EY (by omega),Au,Xh]
  refine(ADh QM (UA hlt) _).trans<|(AJw _).trans ?_
  obtain⟨g,hg⟩:=JC L[i]
  rw[hg]
  rw[Xi]
  refine(AB (AGu F5 (by omega)) _).trans ?_
  refine(AB (Zm (ys:=[]) F5 (by cases fs<;>rfl) rfl rfl Vf (Nat.zero_le _)) _).trans ?_
  refine(FC (b:=0) (by simp;omega) _).trans ?_
  simp only[List.length_nil,Nat.add_zero,Nat.zero_add,List.append_nil,List.take_append_drop]
  rw[Xj]
  have hd:flat (L.drop i)=L[i].2++flat (L.drop (i+1)):=by rw[List.drop_eq_getElem_cons hlt,J5]
  rw[hd]at hn⊢
  rw[List.length_append]at hn
  refine(AB (AGu F5 (by omega)) _).trans ?_
  refine(AB (Zm (ys:=bytesOf L[i].2) F5 rfl (CU _) (Eu _) Vf (by rw[Ak];omega)) _).trans ?_
  rw[Ak]
  refine(FC (by omega) _).trans ?_
  rw[Xk]
  refine(FC (b:=1) (by omega) _).trans ?_
  have:=ih (i+1) (done++L[i].2) (by omega) (by simp;omega)
  rw[List.append_assoc,List.length_append]at this
  rw[←this]
  congr 1
  simp[IQ,Ak,List.take_append,List.drop_append,List.take_of_length_le,List.drop_eq_nil_of_le]
  omega
theorem ASq {R:Type} {n:Nat} {h:List V} (hn:n≤2147483648) (k:V→List V→Option R):mnz P 0 155 [.int .i64 (n:Int)] h k=k (.win h.length [] 0 n 5) (h++[.row 5 (List.replicate n .undef)]):=by
 have:(0:Nat)=0∧(0:Int)≤(n:Int)∧(n:Int)≤(Dh:Int):=⟨rfl,by omega,by simp only[Dh];omega⟩
 unfold mnz
 refine(if_pos this).trans ?_
 have key:∀e:TypeId,e=5→k (.win h.length [] 0 (n:Int).toNat e) (h++[.row e (List.replicate (n:Int).toNat .undef)])=k (.win h.length [] 0 n 5) (h++[.row 5 (List.replicate n .undef)]):=by rintro _ rfl;rfl
 exact key _ (by kernel_rfl)
theorem AJy {s e:TypeId} {id off len b:Nat} {p:List Nat} (k:K P s= .slice e) (h1:b≤len):
 JY P s (.win id p off len e) none (some (.int .i64 (b:Int))) (some (.int .i64 (b:Int)))=some (.win id p off b e):=by
 have e2:(0:Int)≤(b:Int)∧(b:Int)≤(len:Int):=⟨by omega,by omega⟩
 simp[JY,V.weak,k,Bh,e2,h1]
theorem AJz (fs:Fl) (L:List (Fl×List UInt8)) (hL:L.length<2147483648) (hL0:0<L.length) (f:Fl) (hN:(flat L).length<2147483648) (h0:0<(flat L).length):∀(n i acc:Nat),i+n=L.length→acc+(flat (L.drop i)).length=(flat L).length→
 OG (.lst 68 f (parts L)) (.lst 5 fs []) (.int .i64 (acc:Int)) (V.weak (.lst 68 f (parts L))) (.int .i64 (L.length:Int)) (.int .i64 (i:Int)) []=
  some (bL .own (flat L),[]):=by
 intro n
 induction n with
 |zero=>
  intro i acc hi hn
  have hd:L.drop i=[]:=by simp;omega
  rw[hd]at hn
  have e0:(flat ([]:List (Fl×List UInt8))).length=0:=rfl
  rw[P7,Pz,E8 (by omega),A7,Xe]
  have hacc:acc=(flat L).length:=by omega
  subst hacc
  rw[ASq (by omega)]
  refine(AB (AJy F5 (Nat.le_refl _)) _).trans ?_
  obtain⟨p,L',rfl⟩:=List.exists_cons_of_length_pos hL0
  rw[Xf]
  refine(ADi (i:=0) (v:=part p) QM rfl _).trans<|(AJw _).trans ?_
  obtain⟨g,hg⟩:=JC p
  rw[hg]
  refine(AB (Zm (ys:=bytesOf p.2) F5 rfl (CU _) (Eu _) Vf (by rw[Ak,J5,List.length_append];omega)) _).trans ?_
  rw[Xg]
  have sl:JY P 182 (.lst 68 f (parts (p::L'))) (some (.int .i64 1)) none none=some (.lst 68 f.cut (parts L')):=by
   have e1:(1:Int)≤((parts L').length:Int)+1:=by omega
   simp[JY,QM,Bh,parts,e1]
   constructor
   ·omega
   ·rw[List.take_of_length_le (by simp)]
  refine(AB sl _).trans ?_
  refine(ADg OT _).trans ?_
  have:=AJx fs L' (by simp at hL;omega) f.cut (flat (p::L')).length hN h0 L'.length 0 p.2 (by omega) (by rw[J5,List.length_append];rfl)
  simp only[List.drop_zero]at this
  rw[←J5]at this
  refine Eq.trans ?_ this
  simp only[parts,List.length_map,Ak,List.length_nil,List.nil_append,List.take_zero,Nat.zero_add,List.drop_replicate]
  rfl
 |succ n ih=>
  intro i acc hi hn
  have hlt:i<L.length:=by omega
  have hd:flat (L.drop i)=L[i].2++flat (L.drop (i+1)):=by rw[List.drop_eq_getElem_cons hlt,J5]
  rw[hd,List.length_append]at hn
  rw[P7,Pz,EY (by omega),Au,Xa]
  refine(ADi QM (UA hlt) _).trans<|(AJw _).trans ?_
  obtain⟨g,hg⟩:=JC L[i]
  rw[hg,Xb]
  refine Jf _ |>.trans ?_
  refine(AB (Jc _ _ _) _).trans ?_
  rw[wrap_i64 (by omega) (by omega)]
  refine(AB (b_gtr _ _ _) _).trans ?_
  rw[decide_eq_false (by omega),A7,Xc]
  refine AP0 _ |>.trans ?_
  refine(FC (by omega) _).trans ?_
  rw[Xd]
  refine(FC (b:=1) (by omega) _).trans ?_
  exact ih (i+1) (acc+L[i].2.length) (by omega) (by omega)
theorem AJ0 (fs:Fl) (L:List (Fl×List UInt8)) (hL:L.length<2147483648) (f:Fl) (hN:(flat L).length<2147483648) (h0:0<(flat L).length):
 Cl 135 [.lst 68 f (parts L),.lst 5 fs []] []=some (bL .own (flat L),[]):=by
 have hL0:0<L.length:=by
  cases L with
  |nil=>cases h0
  |cons=>simp
 have lp:(parts L).length=L.length:=by simp[parts]
 rw[AJV,AB8,AB9]
 refine(Zk OT _).trans ?_
 rw[lp]
 refine(AB (b_eql _ _ _) _).trans ?_
 rw[decide_eq_false (by omega),A7,ACA]
 refine(Zk OT _).trans ?_
 rw[lp]
 refine(AB (b_eql _ _ _) _).trans ?_
 by_cases h1:L.length=1
 ·rw[decide_eq_true (by omega),Au,ACB]
  match L,h1 with
  |[p],_=>
   refine(ADh (i:=0) (v:=part p) QM rfl _).trans<|(AJw _).trans ?_
   obtain⟨g,hg⟩:=JC p
   have e:flat [p]=p.2:=by simp[flat]
   rw[e]at hN h0⊢
   rw[hg]
   have a:=ANp (f:= .nil) (h:=[]) (l:=[]) (m:=p.2) (g:=g) (Or.inr rfl) (by simp;omega) (fun _=>by cases hp:p.2 with|nil=>rw[hp]at h0;simp at h0|cons=>rfl)
   refine(AB a _).trans ?_
   refine(AB (show DV [] (bL .own ([]++p.2))=some (.win 0 [] 0 p.2.length 5,[.row 5 (bytesOf p.2)])by simp[DV,bL,Ak]) _).trans ?_
   have c:Ad [V.row 5 (bytesOf p.2)] (.win 0 [] 0 p.2.length 5)=some (bytesOf p.2):=by
    simp[Ad,rd,V.at,V.items,Ak]
    rw[List.take_of_length_le (by simp[Ak])]
   simp[Nr,c,CU,FW,bL,Nat.ble,Nat.blt,Nat.ble_eq]
   exact List.ne_nil_of_length_pos h0
 ·rw[decide_eq_false (by omega),A7,ACC,ACD]
  refine(Zk J3 _).trans ?_
  refine(AB (b_gtr _ _ _) _).trans ?_
  simp only[jn,List.length_nil]
  rw[decide_eq_false (by omega),A7,XZ]
  refine(Zk OT _).trans ?_
  rw[lp]
  exact AJz fs L hL hL0 f hN h0 L.length 0 0 (by omega) (by simp)
end
section
open Go AM
def MH (n:Nat):Nat:=(120-n%64)%64
def lb (n i:Nat):UInt8:=UInt8.ofNat (n/2^(56-8*i)%256)
def Gm (n:Nat):Nat→Nat→List UInt8
 |0,_=>[]
 |k+1,i=>lb n i::Gm n k (i+1)
def AGv (l:List UInt8):List UInt8:=(l++[128])++List.replicate (MH (l.length+1)) 0++Gm (8*l.length) 8 0
def blocks:Nat→List Nat→List UInt8→List Nat
 |0,h,_=>h
 |n+1,h,p=>blocks n (Tt h (p.take 64)) (p.drop 64)
def dg (st:List Nat) (i:Nat):UInt8:=UInt8.ofNat (st.getD (i/4) 0/2^(24-8*(i%4))%256)
def FX (st:List Nat):Nat→Nat→List UInt8→List UInt8
 |0,_,w=>w
 |n+1,i,w=>FX st n (i+1) (w.set i (dg st i))
def EL:List Nat:=(match Sv with|V.agg _ l=>l|_=>[]).map fun v=>match v with|V.int _ n=>n.toNat|_=>0
def AP1 (l:List UInt8):List Nat:=blocks ((AGv l).length/64) EL (AGv l)
def ZF (l:List UInt8):List UInt8:=FX (AP1 l) 32 0 (List.replicate 32 0)
def Ar (l:List UInt8):V:= .agg 54 (bytesOf l)
theorem AJ1:Sv=A8 EL:=by kernel_rfl
theorem AGx:EL.length=8:=by kernel_rfl
theorem ALx:B32 EL:=by
 have h:EL.all (fun x=>decide (x<4294967296))=true:=by kernel_rfl
 intro x hx
 have:=List.all_eq_true.1 h x hx
 exact of_decide_eq_true this
theorem Ky {h:List Nat} (p:List UInt8) (bh:B32 h) (hh:h.length=8):B32 (Tt h p)∧(Tt h p).length=8:=ACj _ _ _ bh hh
theorem UB (st:List Nat):∀(n i:Nat) (w:List UInt8),(FX st n i w).length=w.length
 |0,_,_=>rfl
 |n+1,i,w=>by rw[FX,UB st n];simp
theorem Kz (l:List UInt8):(ZF l).length=32:=by rw[ZF,UB];rfl
theorem ADj (l:List UInt8) (i:Nat) (x:UInt8):(bytesOf l).set i (.int .u8 (x.toNat:Int))=bytesOf (l.set i x):=by
 simp[bytesOf,List.map_set]
theorem AP2 (x:Nat) (hx:x<256):(V.int .u8 (x:Int))= .int .u8 ((UInt8.ofNat x).toNat:Int):=by
 simp[Nat.mod_eq_of_lt hx]
theorem NM (n:Nat):∀l:List UInt8,Ac n (bytesOf l)=true
 |[]=>rfl
 |x::l=>by simp only[bytesOf,List.map_cons,Ac];rw[show List.map _ l=bytesOf l from rfl,NM n l];rfl
theorem QW (n:Nat):∀l:List UInt8,DK n (bytesOf l)=true
 |[]=>rfl
 |x::l=>by simp only[bytesOf,List.map_cons,DK];rw[show List.map _ l=bytesOf l from rfl,QW n l];rfl
theorem NP (h:List V):∀l:List UInt8,CZ h (bytesOf l)=bytesOf l
 |[]=>rfl
 |x::l=>by simp only[bytesOf,List.map_cons,CZ];rw[show List.map _ l=bytesOf l from rfl,NP h l];rfl
theorem NQ (h:List V):∀l:List UInt8,AA h (bytesOf l)=bytesOf l
 |[]=>rfl
 |x::l=>by simp only[bytesOf,List.map_cons,AA];rw[show List.map _ l=bytesOf l from rfl,NQ h l];rfl
theorem UC (h:List V):∀l:List Nat,AA h (Kw l)=Kw l
 |[]=>rfl
 |x::l=>by simp only[Kw,List.map_cons,AA];rw[show List.map vw l=Kw l from rfl,UC h l];rfl
theorem AGy (h:List V) (l:List Nat):V.reify h (A8 l)=A8 l:=by simp only[A8,V.reify,UC]
theorem YA (h:List V) (f:Fl) (l:List UInt8):∃g,V.reify h (bL f l)=bL g l:=by
 cases f<;>simp only[bL,V.reify,NQ]<;>exact⟨_,rfl⟩
theorem LC (n:Nat) (h:List V) (l:List UInt8):AQ n h (Ar l)=some (Ar l,h.take n):=by
 simp only[AQ,Ar,V.unmut,NP,V.norm,FW,V.clean,CU,V.over,QW,Bool.and_self,if_true]
theorem Zn:zero P 55=Ar (List.replicate 32 0):=by rw[ALr];rfl
theorem QX (l:List UInt8):BJ P 55 (Ar l)=true:=by simp[BJ,AJf,Ar]
theorem QY (n:Nat) (l:List UInt8):(Ar l).under n=true:=by simp only[Ar,V.under];exact NM _ _
theorem AP3 (l:List Nat):BJ P 184 (A8 l)=true:=by simp[BJ,NI,A8]
theorem AP4 (n:Nat) (l:List Nat):(A8 l).under n=true:=by simp only[A8,V.under];exact FK _ _
theorem AP5 {id i:Nat} (hi:i<32):AX P 55 (.ref id [] 55) (.int .i64 (i:Int))=some (.ref id [i] 5):=by
 have:inside (i:Int) 32=true:=by simp[inside];omega
 simp[AX,AJf,this]
theorem AP6 {h:List V} {id i x:Nat} {l:List UInt8} (hh:h[id]?=some (Ar l)) (hi:i<l.length) (hx:x<256):D8 P h 5 (.ref id [i] 5) (.int .u8 (x:Int))=some (h.set id (Ar (l.set i (UInt8.ofNat x)))):=by
 rw[G7 hh (MF hi) (OY _) rfl,AP2 x hx,ADj];rfl
theorem ANq {h:List V} {st:List Nat} {w:List UInt8} {i:Nat} (hs:h[1]?=some (A8 st)) (hst:st.length=8) (hw:h[2]?=some (Ar w)) (lw:w.length=32) (hi:i<32) (K:List V→Option (V×List V)):
 PD (.ref 1 [] 184) (.ref 2 [] 55) (.int .i64 (i:Int)) h K=K (h.set 2 (Ar (w.set i (dg st i)))):=by
 unfold PD
 refine(AB (Xy _ _ _ (by omega)) _).trans ?_
 rw[show(i:Int).tdiv 4=((i/4:Nat):Int)by rfl,wrap_i64 (by omega) (by omega)]
 refine(at8 hs hst (i/4) (by omega) _).trans ?_
 refine(AB (NK _ _ _ (by omega)) _).trans ?_
 rw[show(i:Int).tmod 4=((i%4:Nat):Int)by rfl]
 refine(X8 (a:=8) (by omega) _).trans<|(IK (a:=24) (by omega) (by omega) _).trans ?_
 refine(AB (BQ OQ ..) _).trans ?_
 rw[wrap_u64 (by omega) (by omega)]
 refine(AB (OW _ (by omega)) _).trans ?_
 refine(AB (BQ NH ..) _).trans ?_
 rw[II]
 refine(AB (AP5 hi) _).trans ?_
 exact AB (AP6 hw (by omega) (Nat.mod_lt _ (by decide))) _
theorem AP7 {st:List Nat} (hst:st.length=8) (z:List UInt8):∀(n i:Nat) (w:List UInt8),i+n=32→w.length=32→
 N8 (.ref 0 [] 55) (.ref 1 [] 184) (.ref 2 [] 55) (.int .i64 (i:Int)) [Ar z,A8 st,Ar w]=some (Ar (FX st n i w),[]):=by
 intro n
 induction n with
 |zero=>
  intro i w hi hw
  rw[PE,O9,E8 (by omega),A7,XG]
  refine(AB (BG (v:=Ar w) (CS rfl)) _).trans ?_
  refine(AB (CB (w:=Ar z) rfl (QX _) (QY _ _)) _).trans ?_
  refine(AB (BG (v:=Ar w) (CS rfl)) _).trans ?_
  exact LC _ _ _
 |succ n ih=>
  intro i w hi hw
  rw[PE,O9,EY (by omega),Au,XE,ANq rfl hst rfl hw (by omega),XF]
  refine(FC (b:=1) (by omega) _).trans ?_
  exact ih (i+1) _ (by omega) (by simp[hw])
theorem AP8:∀(n:Nat) (f:Fl) (p:List UInt8) (st:List Nat),p.length=64*n→p.length<2147483648→B32 st→st.length=8→
 N7 (.ref 0 [] 55) (bL f p) (.ref 1 [] 184) [Ar (List.replicate 32 0),A8 st]=some (Ar (FX (blocks n st p) 32 0 (List.replicate 32 0)),[]):=by
 intro n
 induction n with
 |zero=>
  intro f p st hp hlt bs hst
  rw[PG,O8]
  refine Jf _ |>.trans ?_
  refine(AB (b_gtr _ _ _) _).trans ?_
  rw[decide_eq_false (by omega),A7,XC,XD,Zn]
  exact AP7 hst _ 32 0 _ rfl rfl
 |succ n ih=>
  intro f p st hp hlt bs hst
  rw[PG,O8]
  refine Jf _ |>.trans ?_
  refine(AB (b_gtr _ _ _) _).trans ?_
  rw[decide_eq_true (by omega),Au,XA]
  refine(AB (BG (v:=A8 st) (CS rfl)) _).trans ?_
  have sl:JY P 68 (V.weak (bL f p)) none (some (.int .i64 64)) none=some (bL f.cut (p.take 64)):=by
   have:=ANo (f:=f) (t:=5) (xs:=bytesOf p) F5 (a:=0) (b:=64) (by omega) (by rw[Ak];omega)
   rw[List.drop_zero,bytesOf_take]at this
   rw[bL,bL,←this]
   obtain⟨g,hg⟩:=IL (e:=5) (f:=f) (xs:=bytesOf p)
   rw[hg]
   have e1:(64:Int)≤p.length:=by omega
   simp[JY,F5,Bh,Ak,e1]
  refine(AB sl _).trans ?_
  obtain⟨g,hg⟩:=YA [Ar (List.replicate 32 0),A8 st] f.cut (p.take 64)
  have e:AA [Ar (List.replicate 32 0),A8 st] [A8 st,bL f.cut (p.take 64)]=[A8 st,bL g (p.take 64)]:=by
   simp only[AA,AGy,hg]
  rw[e]
  refine(AB (AJv hst bs (by rw[List.length_take];omega) g) _).trans ?_
  refine(AB (CB (w:=A8 st) rfl (AP3 _) (AP4 _ _)) _).trans ?_
  rw[XB]
  have sl2:JY P 68 (bL f p) (some (.int .i64 64)) none none=some (bL f.cut (p.drop 64)):=by
   have e1:(64:Int)≤p.length:=by omega
   simp[JY,bL,F5,Bh,Ak,e1,bytesOf_drop]
   rw[List.take_of_length_le (by rw[Ak];omega),bytesOf_drop]
  refine(AB sl2 _).trans ?_
  exact ih f.cut (p.drop 64) (Tt st (p.take 64)) (by rw[List.length_drop];omega) (by rw[List.length_drop];omega) (Ky _ bs hst).1 (Ky _ bs hst).2
theorem AP9 (N:Nat) (hN:N<2147483648):∀(n i:Nat) (p:List UInt8),i+n=8→(p.length+n)%64=0→p.length<2147483000→
 Nz (.ref 0 [] 55) (bL .own p) (.int .u64 ((8*N:Nat):Int)) (.int .i64 (i:Int)) [Ar (List.replicate 32 0)]=
  some (Ar (FX (blocks ((p++Gm (8*N) n i).length/64) EL (p++Gm (8*N) n i)) 32 0 (List.replicate 32 0)),[]):=by
 intro n
 induction n with
 |zero=>
  intro i p hi hp hl
  rw[PI,VU,E8 (by omega),A7,W9,AJ1]
  refine(AB Kq _).trans ?_
  refine(AB (CB (w:=zero P 184) rfl (AP3 _) (AP4 _ _)) _).trans ?_
  simp only[Gm,List.append_nil]
  exact AP8 (p.length/64) .own p EL (by omega) (by omega) ALx AGx
 |succ n ih=>
  intro i p hi hp hl
  rw[PI,VU,EY (by omega),Au,ABj,ABk]
  refine(X8 (a:=8) (by omega) _).trans<|(IK (a:=56) (by omega) (by omega) _).trans ?_
  refine(AB (BQ OQ ..) _).trans ?_
  rw[wrap_u64 (by omega) (by omega)]
  have hs:AO .shr (.int .u64 ((8*N:Nat):Int)) (.int .u64 ((56-8*i:Nat):Int))=some (.int .u64 ((8*N/2^(56-8*i):Nat):Int)):=by
   rw[Tj _ _ _ _ (by omega)]
   have:min (((56-8*i:Nat):Int)).toNat (IntKind.u64).bits=56-8*i:=by simp[IntKind.bits];omega
   rw[this,QU]
  refine(AB hs _).trans ?_
  refine(AB (BQ NH ..) _).trans ?_
  rw[II]
  refine(app1 (Or.inl rfl) (by omega) _ (Nat.mod_lt _ (by decide)) _).trans ?_
  rw[Wy]
  refine(FC (b:=1) (by omega) _).trans ?_
  have:=ih (i+1) (p++[lb (8*N) i]) (by omega) (by simp;omega) (by simp;omega)
  rw[List.append_assoc,List.singleton_append]at this
  exact this
theorem AQA (N:Nat) (hN:N<2147483648):∀(n:Nat) (p:List UInt8),MH p.length=n→p.length+n<2147482000→
 Ny (.ref 0 [] 55) (bL .own p) (.int .u64 ((8*N:Nat):Int)) [Ar (List.replicate 32 0)]=
  some (Ar (FX (blocks ((p++List.replicate n 0++Gm (8*N) 8 0).length/64) EL (p++List.replicate n 0++Gm (8*N) 8 0)) 32 0 (List.replicate 32 0)),[]):=by
 intro n
 induction n with
 |zero=>
  intro p hp hl
  rw[PK,VT]
  refine Jf _ |>.trans ?_
  refine(AB (NK _ _ _ (by omega)) _).trans ?_
  rw[show(p.length:Int).tmod 64=((p.length%64:Nat):Int)by rfl]
  refine(AB (b_neq _ _ _) _).trans ?_
  simp only[MH]at hp
  rw[decide_eq_false (by omega),A7,ABi,List.replicate_zero,List.append_nil]
  exact AP9 N hN 8 0 p rfl (by omega) (by omega)
 |succ n ih=>
  intro p hp hl
  rw[PK,VT]
  refine Jf _ |>.trans ?_
  refine(AB (NK _ _ _ (by omega)) _).trans ?_
  rw[show(p.length:Int).tmod 64=((p.length%64:Nat):Int)by rfl]
  refine(AB (b_neq _ _ _) _).trans ?_
  simp only[MH]at hp
  rw[decide_eq_true (by omega),Au,ABh]
  refine(app1 (Or.inl rfl) (by omega) 0 (by omega) _).trans ?_
  have:=ih (p++[0]) (by simp only[MH,List.length_append,List.length_cons,List.length_nil];omega) (by simp;omega)
  rw[List.append_assoc p [0],List.singleton_append]at this
  exact this
theorem Zo (h:List V) (p:Fl×List UInt8):∃g,V.reify h (part p)=part (g,p.2):=YA h p.1 p.2
theorem LD (h:List V):∀L:List (Fl×List UInt8),∃L',AA h (parts L)=parts L'∧flat L'=flat L∧L'.length=L.length
 |[]=>⟨[],rfl,rfl,rfl⟩
 |p::L=>by
  obtain⟨L',e1,e2,e3⟩:=LD h L
  obtain⟨g,hg⟩:=Zo h p
  refine⟨(g,p.2)::L',?_,?_,by simp[e3]⟩
  ·simp only[parts,List.map_cons,AA,hg];exact congrArg _ e1
  ·rw[J5,J5,e2]
theorem NR (h:List V) (f:Fl) (L:List (Fl×List UInt8)):∃f' L',V.reify h (.lst 68 f (parts L))= .lst 68 f' (parts L')∧flat L'=flat L∧L'.length=L.length:=by
 obtain⟨L',e1,e2,e3⟩:=LD h L
 cases f
 case lent=>exact⟨.lent,L',by simp only[V.reify,e1],e2,e3⟩
 all_goals exact⟨.sh,L,rfl,rfl,rfl⟩
theorem ACm (L:List (Fl×List UInt8)) (hL:L.length<2147483648) (f:Fl) (hN:(flat L).length<2147480000) (h0:0<(flat L).length):
 Cl 117 [.lst 68 f (parts L)] []=some (Ar (ZF (flat L)),[]):=by
 obtain⟨f',L',e1,e2,e3⟩:=NR [Ar (List.replicate 32 0)] f L
 have er:AA [Ar (List.replicate 32 0)] [.lst 68 f (parts L),.lst 5 .nil []]=[.lst 68 f' (parts L'),.lst 5 .sh []]:=by
  simp only[AA,e1];rfl
 rw[AJG,ABd,ABe,Zn]
 simp only[List.nil_append]
 rw[er]
 refine(AB (AJ0 .sh L' (by omega) f' (by rw[e2];omega) (by rw[e2];exact h0)) _).trans ?_
 rw[e2,ABf]
 refine Jf _ |>.trans ?_
 refine(AB (BQ D5 ..) _).trans ?_
 rw[wrap_u64 (by omega) (by omega)]
 refine(AB (QN _ _ _) _).trans ?_
 rw[wrap_u64 (by omega) (by omega),show((flat L).length:Int)*8=((8*(flat L).length:Nat):Int)by omega,ABg]
 refine(app1 (Or.inl rfl) (by omega) 128 (by omega) _).trans ?_
 have z:MH ((flat L).length+1)<64:=Nat.mod_lt _ (by decide)
 exact AQA (flat L).length (by omega) (MH ((flat L).length+1)) (flat L++[128]) (by simp) (by simp;omega)
end
section
open Go AM
theorem Vp {a b i:Nat} (h:b<2^i):a*2^i|||b=a*2^i+b:=by
 have:=Nat.shiftLeft_add_eq_or_of_lt h a
 rw[Nat.shiftLeft_eq]at this;exact this.symm
theorem AJ2 {x n:Nat} (hx:x<4294967296) (h1:1≤n) (h2:n≤31):D6 x n=x/2^n+x%2^n*2^(32-n):=by
 have e:(4294967296:Nat)=2^n*2^(32-n):=by rw[←Nat.pow_add,show n+(32-n)=32 by omega]
 have hd:x/2^n<2^(32-n):=by
  rw[Nat.div_lt_iff_lt_mul (Nat.pow_pos (by decide)),Nat.mul_comm,←e];exact hx
 unfold D6
 rw[show x*2^(32-n)%4294967296=x%2^n*2^(32-n)by rw[e,Nat.mul_mod_mul_right],Vp hd,Nat.add_comm]
theorem AJ3 {a b c d:Nat} (ha:a<256) (hb:b<256) (hc:c<256) (hd:d<256):
 ((a*2^24%4294967296|||b*2^16%4294967296)|||c*2^8%4294967296)|||d=a*16777216+b*65536+c*256+d:=by
 have e1:a*2^24%4294967296=a*2^24:=Nat.mod_eq_of_lt (by omega)
 have e2:b*2^16%4294967296=b*2^16:=Nat.mod_eq_of_lt (by omega)
 have e3:c*2^8%4294967296=c*2^8:=Nat.mod_eq_of_lt (by omega)
 rw[e1,e2,e3,Vp (by omega),show a*2^24+b*2^16=(a*256+b)*2^16 by omega,Vp (by omega),show(a*256+b)*2^16+c*2^8=(a*65536+b*256+c)*2^8 by omega,Vp (by omega)]
theorem AQB {e f g:Nat} (he:e<4294967296) (hf:f<4294967296) (hg:g<4294967296):(e&&& f) ^^^ ((4294967295-e)&&& g)=g ^^^ (e&&& (f ^^^ g)):=by
 have hb:∀i,(4294967295-e).testBit i=(decide (i<32)&& !e.testBit i):=fun i=>by
  rw[←Nat.testBit_two_pow_sub_succ (n:=32) he i,show 4294967295-e=2^32-(e+1)by omega]
 apply Nat.eq_of_testBit_eq
 intro i
 simp only[Nat.testBit_xor,Nat.testBit_and,hb]
 by_cases hi:i<32
 ·simp only[hi,decide_true,Bool.true_and]
  cases e.testBit i<;>cases f.testBit i<;>cases g.testBit i<;>rfl
 ·have:g.testBit i=false:=Nat.testBit_lt_two_pow (Nat.lt_of_lt_of_le hg (Nat.pow_le_pow_right (n:=2) (i:=32) (by decide) (by omega)))
  have:f.testBit i=false:=Nat.testBit_lt_two_pow (Nat.lt_of_lt_of_le hf (Nat.pow_le_pow_right (n:=2) (i:=32) (by decide) (by omega)))
  simp[*]
theorem AQC (a b c:Nat):((a&&& b) ^^^ (a&&& c)) ^^^ (b&&& c)=(a&&& b)|||(c&&& (a|||b)):=by
 apply Nat.eq_of_testBit_eq
 intro i
 simp only[Nat.testBit_xor,Nat.testBit_and,Nat.testBit_or]
 cases a.testBit i<;>cases b.testBit i<;>cases c.testBit i<;>rfl
theorem ad4 (a b c d:Nat):ad (ad (ad a b) c) d=(a+b+c+d)%4294967296:=by simp only[ad];omega
theorem ad5 (a b c d e:Nat):ad (ad (ad (ad a b) c) d) e=(a+b+c+d+e)%4294967296:=by simp only[ad];omega
theorem ASr (a b:Nat):ad (a%4294967296) b=(a+b)%4294967296:=by simp only[ad];omega
theorem ASs (a b:Nat):ad b (a%4294967296)=(b+a)%4294967296:=by simp only[ad];omega
def fv (w:List Nat) (t:Nat):Nat:=ad (ad (ad (w.getD (t-16) 0) (w.getD (t-7) 0)) (sg0 (w.getD (t-15) 0))) (sg1 (w.getD (t-2) 0))
def YB (p:List UInt8):Nat→Nat→List Nat→List Nat
 |0,_,w=>w
 |n+1,t,w=>YB p n (t+1) (w++[wordAt p t])
def UD:Nat→Nat→List Nat→List Nat
 |0,_,w=>w
 |n+1,t,w=>UD n (t+1) (w++[fv w t])
theorem Jg {l:List Nat} {t x:Nat} (ht:t<l.length):(l.set t x).take (t+1)=l.take t++[x]:=by
 rw[List.take_add_one]
 simp[ht,List.take_set_of_le]
theorem YC (p:List UInt8):∀(n t:Nat) (w:List Nat),t+n≤w.length→YB p n t (w.take t)=(Jd p n t w).take (t+n)
 |0,_,_,_=>rfl
 |n+1,t,w,h=>by
  rw[YB,Jd,←Jg (by omega),YC p n (t+1) (w.set t (wordAt p t)) (by simp;omega),show t+1+n=t+(n+1)by omega]
theorem getD_take {w:List Nat} {i t:Nat} (h:i<t):(w.take t).getD i 0=w.getD i 0:=by
 simp[List.getD_eq_getElem?_getD,List.getElem?_take,h]
theorem YD:∀(n t:Nat) (w:List Nat),16≤t→t+n≤w.length→UD n t (w.take t)=(Je n t w).take (t+n)
 |0,_,_,_,_=>rfl
 |n+1,t,w,h16,h=>by
  have e:fv (w.take t) t=fv w t:=by simp only[fv];rw[getD_take (by omega),getD_take (by omega),getD_take (by omega),getD_take (by omega)]
  rw[UD,ACk,e,←Jg (by omega)]
  exact(YD n (t+1) (w.set t (fv w t)) (by omega) (by simp;omega)).trans (by rw[show t+1+n=t+(n+1)by omega];rfl)
theorem ANr (p:List UInt8):UD 48 16 (YB p 16 0 [])=Je 48 16 (Jd p 16 0 (List.replicate 64 0)):=by
 have JI:B32 (List.replicate 64 0):=fun x hx=>by rw[List.eq_of_mem_replicate hx];decide
 have a:=X4 p 16 0 (List.replicate 64 0) JI (by simp)
 have b:=X5 48 16 _ a.1 a.2
 have h1:=YC p 16 0 (List.replicate 64 0) (by simp)
 rw[List.take_zero]at h1
 rw[h1,YD 48 16 _ (by omega) (by omega),List.take_of_length_le (by omega)]
end
section
open Go AM
def uw (n:Nat):V:= .int .u64 (n:Int)
def QZ (l:List Nat):List V:=l.map uw
def uL (f:Fl) (l:List Nat):V:= .lst 93 f (QZ l)
theorem Ew {B:Type} {a b:Nat} (h:a+b<18446744073709551616) (K:V→Option B):(AO .add (.int .u64 (a:Int)) (.int .u64 (b:Int))).bind K=K (.int .u64 ((a+b:Nat):Int)):=by
 rw[Dt,show(a:Int)+(b:Int)=((a+b:Nat):Int)by omega,wrap_u64 (by omega) (by omega)];rfl
theorem AQD {B:Type} {a b:Nat} (h:b≤a) (ha:a<18446744073709551616) (K:V→Option B):(AO .sub (.int .u64 (a:Int)) (.int .u64 (b:Int))).bind K=K (.int .u64 ((a-b:Nat):Int)):=by
 rw[Jc,show(a:Int)-(b:Int)=((a-b:Nat):Int)by omega,wrap_u64 (by omega) (by omega)];rfl
theorem YE {B:Type} {a b:Nat} (h:a*b<18446744073709551616) (K:V→Option B):(AO .mul (.int .u64 (a:Int)) (.int .u64 (b:Int))).bind K=K (.int .u64 ((a*b:Nat):Int)):=by
 rw[QN,←Int.natCast_mul,wrap_u64 (by omega) (by omega)];rfl
theorem NS {B:Type} {a b:Nat} (hb:0<b) (h:a<18446744073709551616) (K:V→Option B):(AO .quo (.int .u64 (a:Int)) (.int .u64 (b:Int))).bind K=K (.int .u64 ((a/b:Nat):Int)):=by
 have:a/b≤a:=Nat.div_le_self _ _
 rw[Xy _ _ _ (by omega),show(a:Int).tdiv b=((a/b:Nat):Int)by rfl]
 generalize a/b=c at*
 rw[wrap_u64 (by omega) (by omega)];rfl
theorem Qa {B:Type} {a b:Nat} (hb:0<b) (K:V→Option B):(AO .rem (.int .u64 (a:Int)) (.int .u64 (b:Int))).bind K=K (.int .u64 ((a%b:Nat):Int)):=by
 rw[NK _ _ _ (by omega),show(a:Int).tmod b=((a%b:Nat):Int)by rfl];rfl
theorem ASt {B:Type} {k:IntKind} {a b:Int} (h:a=b) (K:V→Option B):(AO .eql (.int k a) (.int k b)).bind K=K (.bool true):=by
 rw[b_eql,Option.bind_some,decide_eq_true h]
theorem ASu {B:Type} {k:IntKind} {a b:Int} (h:¬a=b) (K:V→Option B):(AO .eql (.int k a) (.int k b)).bind K=K (.bool false):=by
 rw[b_eql,Option.bind_some,decide_eq_false h]
theorem Zp {B:Type} {k:IntKind} {a b:Int} (h:a≠b) (K:V→Option B):(AO .neq (.int k a) (.int k b)).bind K=K (.bool true):=by
 rw[b_neq,Option.bind_some,decide_eq_true h]
theorem Zq {B:Type} {k:IntKind} {a b:Int} (h:¬a≠b) (K:V→Option B):(AO .neq (.int k a) (.int k b)).bind K=K (.bool false):=by
 rw[b_neq,Option.bind_some,decide_eq_false h]
theorem ANs {B:Type} {k:IntKind} {a b:Int} (h:b≤a) (K:V→Option B):(AO .geq (.int k a) (.int k b)).bind K=K (.bool true):=by
 rw[b_geq,Option.bind_some,decide_eq_true h]
theorem ANt {B:Type} {k:IntKind} {a b:Int} (h:¬b≤a) (K:V→Option B):(AO .geq (.int k a) (.int k b)).bind K=K (.bool false):=by
 rw[b_geq,Option.bind_some,decide_eq_false h]
theorem Vq {l:List Nat} {i:Nat} (hi:i<l.length):(QZ l)[i]?=some (uw (l.getD i 0)):=by
 simp[QZ,List.getElem?_map,List.getElem?_eq_getElem hi]
theorem OZ (l:List Nat):(QZ l).length=l.length:=by simp[QZ]
theorem AJ4 (a b:List Nat):QZ (a++b)=QZ a++QZ b:=by simp[QZ]
theorem UE:∀l:List Nat,AV (QZ l)=true
 |[]=>rfl
 |x::l=>by simp only[QZ,List.map_cons,AV];rw[show List.map uw l=QZ l from rfl,UE l];rfl
theorem UF (l:List Nat):F8 P 93 (QZ l)=true:=by
 simp[F8,QZ,BJ,AGb,BK,D5,uw]
theorem AQE (x:Nat):BJ P 93 (uw x)=true:=by simp[BJ,AGb,BK,D5,uw]
theorem SI {B:Type} {h:List V} {f:Fl} {l:List Nat} {i:Nat} (hi:i<l.length) (K:V→Option B):
 (AX P 187 (V.weak (uL f l)) (.int .i64 (i:Int))).bind (fun a=>(AY h 93 a).bind K)=K (.int .u64 (l.getD i 0:Int)):=by
 refine(ADi NJ (Vq hi) _).trans ?_
 exact ldR _
theorem AGz (v:V) (f:Fl) (l:List Nat) (hv:v=uL f l):V.weak (V.weak v)=V.weak v:=by subst hv;cases f<;>rfl
theorem ALy {B:Type} {f:Fl} {h:List V} {l:List Nat} (hf:f= .own∨f= .nil) (hl:l.length+1≤2147483648) (x:Nat) (K':V→Option B):
 (Bv P 187 1 [(0,.int .u64 (x:Int))]).bind (fun y=>(DW P 187 h (uL f l) y).bind K')=K' (uL .own (l++[x])):=by
 refine(AB (ACl NJ (AQE x) rfl Ti ⟨_,rfl⟩) _).trans ?_
 refine(AB (Zl NJ hf (y:=V.lst 93 .own [.int .u64 x]) rfl rfl (UF [x]) (by rw[OZ];exact hl) Ti) _).trans ?_
 rw[uL,AJ4];rfl
theorem ANu (m:Nat) (hm:m≤63):∀(n i x:Nat),i+n=m→x=2^i→
 OO (.int .i64 (m:Int)) (.int .u64 (x:Int)) (.int .i64 (i:Int))=some (.int .u64 ((2^m:Nat):Int),[]):=by
 intro n
 induction n with
 |zero=>
  intro i x hi hx
  rw[QL,Ve,E8 (by omega),A7,ACR,EK]
  subst hx;rw[show i=m by omega];rfl
 |succ n ih=>
  intro i x hi hx
  rw[QL,Ve,EY (by omega),Au,ACP]
  have hp:2*x=2^(i+1):=by rw[hx,Nat.pow_succ,Nat.mul_comm]
  have:2^(i+1)≤2^63:=Nat.pow_le_pow_right (by decide) (by omega)
  refine(YE (a:=2) (by rw[hp];omega) _).trans ?_
  rw[ACQ]
  refine(FC (b:=1) (by omega) _).trans ?_
  exact ih (i+1) (2*x) (by omega) hp
theorem ANv {m:Nat} (hm:m≤63):Cl 137 [.int .i64 (m:Int)] []=some (.int .u64 ((2^m:Nat):Int),[]):=by
 rw[AJX,ACM,ACN,ACO]
 exact ANu m hm m 0 1 (by omega) rfl
theorem AJ5 {B:Type} {h:List V} {m:Nat} (hm:m≤63) (K:V×List V→Option B):(Cl 137 (AA h [.int .i64 (m:Int)]) []).bind K=K (.int .u64 ((2^m:Nat):Int),[]):=
 AB (ANv hm) K
theorem AJ6 {B:Type} {h:List V} {m:Nat} (K:V×List V→Option B):(Cl 139 (AA h [.int .u64 (m:Int)]) []).bind K=K (.int .u64 ((m%4294967296:Nat):Int),[]):=by
 refine AB ?_ K
 show Cl 139 [.int .u64 (m:Int)] []=_
 rw[AJa,ACT,ACU]
 exact Qa (b:=4294967296) (by decide) _
theorem AG0 {x n:Nat} (hx:x<4294967296) (h1:1≤n) (h2:n≤31):Cl 140 [.int .u64 (x:Int),.int .i64 (n:Int)] []=some (.int .u64 (D6 x n:Int),[]):=by
 rw[AJb,ACV,ACW]
 have p0:0<2^n:=Nat.pow_pos (by decide)
 have e:(4294967296:Nat)=2^n*2^(32-n):=by rw[←Nat.pow_add,show n+(32-n)=32 by omega]
 have hr:=Af (n:=n) hx
 rw[AJ2 hx h1 h2]at hr⊢
 refine(AJ5 (by omega) _).trans<|(NS p0 (by omega) _).trans<|(AJ5 (by omega) _).trans<|(Qa p0 _).trans ?_
 have hr':x/2^n+x%2^n*2^(32-n)<18446744073709551616:=Nat.lt_trans hr (by decide)
 refine(IK (a:=32) (by omega) (by omega) _).trans<|(AJ5 (by omega) _).trans<|(YE (Nat.lt_of_le_of_lt (Nat.le_add_left _ _) hr') _).trans<|(Ew hr' _).trans ?_
 rfl
theorem GY {B:Type} {h:List V} {x:Nat} (hx:x<4294967296) (n:Nat) (h1:1≤n) (h2:n≤31) (K:V×List V→Option B):
 (Cl 140 (AA h [.int .u64 (x:Int),.int .i64 (n:Int)]) []).bind K=K (.int .u64 (D6 x n:Int),[]):=AB (AG0 hx h1 h2) K
theorem ADk:Cl 138 [] []=some (uL .sh BZ,[]):=by
 rw[AJZ,ACS]
 kernel_rfl
end
section
open Go AM
theorem Zr {a:Nat} (h:a<4294967296):a<18446744073709551616:=Nat.lt_trans h (by decide)
theorem IU {B:Type} {a b:Nat} (ha:a<4294967296) (hb:b<4294967296) (K:V→Option B):(AO .xor (.int .u64 (a:Int)) (.int .u64 (b:Int))).bind K=K (.int .u64 ((a ^^^ b:Nat):Int)):=
 AB (u64_xor (Zr ha) (Zr hb)) K
theorem YF {B:Type} {a b:Nat} (ha:a<4294967296) (hb:b<4294967296) (K:V→Option B):(AO .and (.int .u64 (a:Int)) (.int .u64 (b:Int))).bind K=K (.int .u64 ((a&&& b:Nat):Int)):=
 AB (u64_and (Zr ha) (Zr hb)) K
def box (st:List Nat):List V:=[.row 93 (QZ st)]
def GZ:V:= .win 0 [] 0 8 93
theorem ALz {i:Nat} (hi:i<8):AX P 187 (V.weak GZ) (.int .i64 (i:Int))=some (.ref 0 [i] 93):=by
 have:inside (i:Int) 8=true:=by simp[inside];omega
 simp[AX,GZ,V.weak,NJ,this]
theorem YG {B:Type} {st:List Nat} (hs:st.length=8) {i:Nat} (hi:i<8) (K:V→Option B):
 (AX P 187 (V.weak GZ) (.int .i64 (i:Int))).bind (fun a=>(AY (box st) 93 a).bind K)=K (.int .u64 (st.getD i 0:Int)):=by
 refine(AB (ALz hi) _).trans ?_
 exact AB (BG (ANi (u:=93) (fs:=QZ st) rfl (Vq (by omega)))) _
theorem AQF {st:List Nat} (hs:st.length=8) {i x:Nat} (hi:i<8):D8 P (box st) 93 (.ref 0 [i] 93) (.int .u64 (x:Int))=some (box (st.set i x)):=by
 have:=AJh (P:=P) (h:=box st) (t:=93) (u:=93) (id:=0) (i:=i) (fs:=QZ st) (v:=uw x) (x:=uw (st.getD i 0)) rfl (Vq (by omega)) (AQE x) rfl
 refine this.trans ?_
 simp[box,QZ,List.map_set]
theorem sl4 {p:List UInt8} {a j:Nat} (hp:a+4≤p.length) (hj:j<4):(bytesOf ((p.take (a+4)).drop a))[j]?=some (.int .u8 ((p.getD (a+j) 0).toNat:Int)):=by
 rw[←bytesOf_drop,←bytesOf_take,List.getElem?_drop,List.getElem?_take_of_lt (by omega),MF (by omega)]
theorem atB {B:Type} {h:List V} {f:Fl} {l:List UInt8} {i x:Nat} (hi:(bytesOf l)[i]?=some (.int .u8 (x:Int))) (K:V→Option B):
 (AX P 68 (V.weak (bL f l)) (.int .i64 (i:Int))).bind (fun a=>(AY h 5 a).bind K)=K (.int .u8 (x:Int)):=by
 refine(ADi F5 hi _).trans ?_
 exact ldR _
theorem cvU {B:Type} {h:List V} {x:Nat} (hx:x<256) (K:V→Option B):(conv P h 5 93 (.int .u8 (x:Int))).bind K=K (.int .u64 (x:Int)):=by
 refine(AB (BQ D5 ..) _).trans ?_
 rw[wrap_u64 (by omega) (by omega)]
theorem AJ7 {h:List V} {f g:Fl} {p:List UInt8} {w:List Nat} {a:Nat} (hp:a+4≤p.length) (hw:w.length<100) (hf:f= .own∨f= .nil) (K:V→Option (V×List V)):
 PS (uL f w) (bL g ((p.take (a+4)).drop a)) h K=
  K (uL .own (w++[(p.getD a 0).toNat*16777216+(p.getD (a+1) 0).toNat*65536+(p.getD (a+2) 0).toNat*256+(p.getD (a+3) 0).toNat])):=by
 have b:∀j,(p.getD j 0).toNat<256:=fun j=>UInt8.toNat_lt _
 have b0:=b (a+0);have b1:=b (a+1);have b2:=b (a+2);have b3:=b (a+3)
 unfold PS
 refine(atB (i:=0) (sl4 hp (by omega)) _).trans<|(cvU (b _) _).trans<|(YE (b:=16777216) (by omega) _).trans ?_
 refine(atB (i:=1) (sl4 hp (by omega)) _).trans<|(cvU (b _) _).trans<|(YE (b:=65536) (by omega) _).trans<|(Ew (by omega) _).trans ?_
 refine(atB (i:=2) (sl4 hp (by omega)) _).trans<|(cvU (b _) _).trans<|(YE (b:=256) (by omega) _).trans<|(Ew (by omega) _).trans ?_
 refine(atB (i:=3) (sl4 hp (by omega)) _).trans<|(cvU (b _) _).trans<|(Ew (by omega) _).trans ?_
 exact ALy hf (by omega) _ _
theorem AJ8 {h:List V} {f:Fl} {w:List Nat} {t:Nat} (h16:16≤t) (ht:t<64) (hw:w.length=t) (K:V→V→Option (V×List V)):
 PU (uL f w) (.int .i64 (t:Int)) h K=K (uw (w.getD (t-15) 0)) (uw (w.getD (t-2) 0)):=by
 unfold PU
 refine(IK (b:=15) (by omega) (by omega) _).trans<|(SI (by omega) _).trans ?_
 exact(IK (b:=2) (by omega) (by omega) _).trans<|(SI (by omega) _)
theorem ANw {x:Nat} (hx:x<4294967296):sg0 x<4294967296:=DR (DR (Af hx) (Af hx)) (JB _ hx)
theorem ANx {x:Nat} (hx:x<4294967296):sg1 x<4294967296:=DR (DR (Af hx) (Af hx)) (JB _ hx)
theorem AJ9 {h:List V} {f:Fl} {w:List Nat} {t:Nat} (h16:16≤t) (ht:t<64) (hw:w.length=t) (bw:B32 w) (hf:f= .own∨f= .nil) (K:V→Option (V×List V)):
 PV (uL f w) (.int .i64 (t:Int)) (uw (w.getD (t-15) 0)) (uw (w.getD (t-2) 0)) h K=K (uL .own (w++[fv w t])):=by
 have a1:=bw.get (t-16);have a2:=bw.get (t-7);have a3:=bw.get (t-15);have a4:=bw.get (t-2)
 have s0:=ANw a3;have s1:=ANx a4
 unfold PV
 rw[AGz _ f w rfl]
 refine(IK (b:=16) (by omega) (by omega) _).trans<|(SI (by omega) _).trans ?_
 refine(IK (b:=7) (by omega) (by omega) _).trans<|(SI (by omega) _).trans ?_
 refine(Ew (by omega) _).trans ?_
 refine(GY a3 7 (by omega) (by omega) _).trans<|(GY a3 18 (by omega) (by omega) _).trans<|(IU (Af a3) (Af a3) _).trans ?_
 refine(NS (b:=8) (by omega) (Zr a3) _).trans ?_
 refine(IU (DR (Af a3) (Af a3)) (JB 8 a3) _).trans ?_
 refine(Ew (show _+sg0 (w.getD (t-15) 0)<_ by omega) _).trans ?_
 refine(GY a4 17 (by omega) (by omega) _).trans<|(GY a4 19 (by omega) (by omega) _).trans<|(IU (Af a4) (Af a4) _).trans ?_
 refine(NS (b:=1024) (by omega) (Zr a4) _).trans ?_
 refine(IU (DR (Af a4) (Af a4)) (JB 1024 a4) _).trans ?_
 refine(Ew (show _+sg0 (w.getD (t-15) 0)+sg1 (w.getD (t-2) 0)<_ by omega) _).trans ?_
 refine(AJ6 _).trans ?_
 rw[fv,ad4]
 exact ALy hf (by omega) _ _
theorem AKA {h:List V} {f:Fl} {v:List Nat} (hv:v.length=8) (K:V→V→Option (V×List V)):
 PY (uL f v) h K=K (uw (v.getD 0 0)) (uw (v.getD 4 0)):=by
 unfold PY
 exact(SI (i:=0) (by omega) _).trans<|(SI (i:=4) (by omega) _)
theorem AKB {h:List V} {f:Fl} {v:List Nat} (hv:v.length=8) (bv:B32 v) (K:V→Option (V×List V)):
 PZ (uL f v) (uw (v.getD 4 0)) h K=K (uw (v.getD 6 0 ^^^ (v.getD 4 0&&& (v.getD 5 0 ^^^ v.getD 6 0)))):=by
 have be:=bv.get 4;have bf:=bv.get 5;have bg:=bv.get 6
 unfold PZ
 refine(SI (i:=5) (by omega) _).trans<|(YF be bf _).trans<|(AQD (a:=4294967295) (by omega) (by omega) _).trans ?_
 refine(SI (i:=6) (by omega) _).trans<|(YF (by omega) bg _).trans<|(IU (Dn be) (Dn (by omega)) _).trans ?_
 rw[AQB be bf bg];rfl
theorem AKC {h:List V} {f:Fl} {v:List Nat} (hv:v.length=8) (bv:B32 v) (K:V→Option (V×List V)):
 Pe (uL f v) (uw (v.getD 0 0)) h K=K (uw ((v.getD 0 0&&& v.getD 1 0)|||(v.getD 2 0&&& (v.getD 0 0|||v.getD 1 0)))):=by
 have ba:=bv.get 0;have bb:=bv.get 1;have bc:=bv.get 2
 unfold Pe
 refine(SI (i:=1) (by omega) _).trans<|(YF ba bb _).trans ?_
 refine(SI (i:=2) (by omega) _).trans<|(YF ba bc _).trans<|(IU (Dn ba) (Dn ba) _).trans ?_
 refine(SI (i:=1) (by omega) _).trans<|(SI (i:=2) (by omega) _).trans<|(YF bb bc _).trans<|(IU (DR (Dn ba) (Dn ba)) (Dn bb) _).trans ?_
 rw[AQC];rfl
def s1E (e:Nat):Nat:=(D6 e 6 ^^^ D6 e 11) ^^^ D6 e 25
def s0A (a:Nat):Nat:=(D6 a 2 ^^^ D6 a 13) ^^^ D6 a 22
theorem AG1 {e:Nat} (h:e<4294967296):s1E e<4294967296:=DR (DR (Af h) (Af h)) (Af h)
theorem AG2 {e:Nat} (h:e<4294967296):s0A e<4294967296:=DR (DR (Af h) (Af h)) (Af h)
theorem AKE {h:List V} {f g k:Fl} {v w:List Nat} {c t:Nat} (hv:v.length=8) (bv:B32 v) (hw:w.length=64) (bw:B32 w) (ht:t<64) (hc:c<4294967296) (K:V→Option (V×List V)):
 Pg (uL k BZ) (uL g w) (uL f v) (.int .i64 (t:Int)) (uw (v.getD 4 0)) (uw c) h K=K (uw (v.getD 7 0+s1E (v.getD 4 0)+c+BZ.getD t 0+w.getD t 0)):=by
 have be:=bv.get 4;have b7:=bv.get 7;have bk:=ALw.get t;have bt:=bw.get t
 have s:=AG1 be
 unfold Pg
 refine(SI (i:=7) (by omega) _).trans<|(GY be 6 (by omega) (by omega) _).trans<|(GY be 11 (by omega) (by omega) _).trans<|(IU (Af be) (Af be) _).trans ?_
 refine(GY be 25 (by omega) (by omega) _).trans<|(IU (DR (Af be) (Af be)) (Af be) _).trans ?_
 refine(Ew (show _+s1E (v.getD 4 0)<_ by omega) _).trans<|(Ew (show _+s1E (v.getD 4 0)+c<_ by omega) _).trans ?_
 refine(SI (by rw[ALv];exact ht) _).trans<|(Ew (show _+s1E (v.getD 4 0)+c+_<_ by omega) _).trans ?_
 exact(SI (by omega) _).trans<|(Ew (show _+s1E (v.getD 4 0)+c+_+_<_ by omega) _)
theorem AKF {h:List V} {a c:Nat} (ba:a<4294967296) (hc:c<4294967296) (K:V→Option (V×List V)):
 Ph (uw a) (uw c) h K=K (uw (s0A a+c)):=by
 have s:=AG2 ba
 unfold Ph
 refine(GY ba 2 (by omega) (by omega) _).trans<|(GY ba 13 (by omega) (by omega) _).trans<|(IU (Af ba) (Af ba) _).trans ?_
 refine(GY ba 22 (by omega) (by omega) _).trans<|(IU (DR (Af ba) (Af ba)) (Af ba) _).trans ?_
 exact(Ew (show s0A a+c<_ by omega) _)
theorem AL0 (z0 z1 z2 z3 z4 z5 z6 z7:Nat):Bv P 187 8 [(0,.int .u64 (z0:Int)),(1,.int .u64 (z1:Int)),(2,.int .u64 (z2:Int)),(3,.int .u64 (z3:Int)),(4,.int .u64 (z4:Int)),(5,.int .u64 (z5:Int)),(6,.int .u64 (z6:Int)),(7,.int .u64 (z7:Int))]=some (uL .own [z0,z1,z2,z3,z4,z5,z6,z7]):=by
 simp[Bv,NJ,Bc,BJ,AGb,BK,D5,cp,Ti,uL,QZ,uw,List.replicate,AV,V.clean,DJ]
theorem AKG {h:List V} {f:Fl} {v:List Nat} {a e x y:Nat} (hv:v.length=8) (bv:B32 v) (hx:x<4294967296*8) (hy:y<4294967296*8) (K:V→Option (V×List V)):
 Pj (uL f v) (uw a) (uw e) (uw x) (uw y) h K=
  K (uL .own [(x+y)%4294967296,a,v.getD 1 0,v.getD 2 0,(v.getD 3 0+x)%4294967296,e,v.getD 5 0,v.getD 6 0]):=by
 have b3:=bv.get 3
 unfold Pj
 refine(Ew (by omega) _).trans<|(AJ6 _).trans<|(SI (i:=1) (by omega) _).trans<|(SI (i:=2) (by omega) _).trans<|(SI (i:=3) (by omega) _).trans ?_
 refine(Ew (by omega) _).trans<|(AJ6 _).trans<|(SI (i:=5) (by omega) _).trans<|(SI (i:=6) (by omega) _).trans ?_
 exact AB (AL0 _ _ _ _ _ _ _ _) _
theorem ANy (e f g h k w:Nat):chE e f g h k w=(h+s1E e+(g ^^^ (e&&& (f ^^^ g)))+k+w)%4294967296:=ad5 ..
theorem ANz (a b c:Nat):mjA a b c=(s0A a+((a&&& b)|||(c&&& (a|||b))))%4294967296:=rfl
theorem AKH {k w v:List Nat} {t:Nat}:
 [(v.getD 7 0+s1E (v.getD 4 0)+(v.getD 6 0 ^^^ (v.getD 4 0&&& (v.getD 5 0 ^^^ v.getD 6 0)))+k.getD t 0+w.getD t 0+(s0A (v.getD 0 0)+((v.getD 0 0&&& v.getD 1 0)|||(v.getD 2 0&&& (v.getD 0 0|||v.getD 1 0)))))%4294967296,
   v.getD 0 0,v.getD 1 0,v.getD 2 0,
   (v.getD 3 0+(v.getD 7 0+s1E (v.getD 4 0)+(v.getD 6 0 ^^^ (v.getD 4 0&&& (v.getD 5 0 ^^^ v.getD 6 0)))+k.getD t 0+w.getD t 0))%4294967296,
   v.getD 4 0,v.getD 5 0,v.getD 6 0]=rnd k w t v:=by
 rw[AGo,ANy,ANz,ASr,ASs,Nat.add_mod_mod]
end
section
open Go AM
theorem ADl (p:List UInt8) (o t:Nat) (ho:o+4*t+4≤p.length) (ht:t<16):
 (p.getD (o+4*t) 0).toNat*16777216+(p.getD (o+4*t+1) 0).toNat*65536+(p.getD (o+4*t+2) 0).toNat*256+(p.getD (o+4*t+3) 0).toNat=wordAt ((p.drop o).take 64) t:=by
 have e:∀j,j<64→((p.drop o).take 64).getD j 0=p.getD (o+j) 0:=by
  intro j hj
  simp[List.getD_eq_getElem?_getD,List.getElem?_take,List.getElem?_drop,hj]
 have b:∀j,(p.getD j 0).toNat<256:=fun j=>UInt8.toNat_lt _
 rw[wordAt,e _ (by omega),e _ (by omega),e _ (by omega),e _ (by omega),AJ3 (b _) (b _) (b _) (b _)]
 simp only[Nat.add_assoc]
theorem AKI (p:List UInt8) (t6:V) (o:Nat) (m4:Nat) (v:List Nat) (f:Fl) (hv:v.length=8) (bv:B32 v) (N:V×List V→Prop) (R:Option (V×List V))
 (k:∀st:List Nat,st.length=8→B32 st→Eh (bL .own p) t6 GZ (.int .i64 ((o+64:Nat):Int)) (box st)=Eh (bL .own p) t6 GZ (.int .i64 ((o+64:Nat):Int)) (box st)) (ho:o<2^40):
 ∀(n i:Nat) (st:List Nat),i+n=8→st.length=8→B32 st→
 KZ (bL .own p) t6 GZ (.int .i64 (o:Int)) (uL f v) (.int .i64 (i:Int)) m4 (box st)=
  Eh (bL .own p) t6 GZ (.int .i64 ((o+64:Nat):Int)) (box (MG v n i st)):=by
 intro n
 induction n with
 |zero=>
  intro i st hi hs bs
  rw[NF,Pm,E8 (by omega),A7,XT]
  refine(FC (b:=64) (by omega) _).trans ?_
  rfl
 |succ n ih=>
  intro i st hi hs bs
  rw[NF,Pm,EY (by omega),Au,XQ]
  have b1:=bs.get i;have b2:=bv.get i
  refine(YG hs (by omega) _).trans<|(SI (by omega) _).trans<|(Ew (by omega) _).trans<|(AJ6 _).trans ?_
  refine(AB (ALz (by omega)) _).trans<|(AB (AQF hs (by omega)) _).trans ?_
  rw[XR]
  refine(FC (b:=1) (by omega) _).trans ?_
  exact ih (i+1) _ (by omega) (by simp[hs]) (bs.set i (Tq _ _))
theorem AN0 (p:List UInt8) (o m4:Nat) (ho:o<2^40) (w st:List Nat) (g kf:Fl) (hw:w.length=64) (bw:B32 w) (hs:st.length=8) (bs:B32 st):
 ∀(n t:Nat) (v:List Nat) (f:Fl),t+n=64→v.length=8→B32 v→
 OD (bL .own p) (uL kf BZ) GZ (.int .i64 (o:Int)) (uL g w) (uL f v) (.int .i64 (t:Int)) m4 (box st)=
  Eh (bL .own p) (uL kf BZ) GZ (.int .i64 ((o+64:Nat):Int)) (box (MG (QV BZ w n t v) 8 0 st)):=by
 intro n
 induction n with
 |zero=>
  intro t v f ht hv bv
  rw[Pn,PX,E8 (by omega),A7,XP]
  exact AKI p _ o m4 v f hv bv (fun _=>True) none (fun _ _ _=>rfl) ho 8 0 st rfl hs bs
 |succ n ih=>
  intro t v f ht hv bv
  have c1:(v.getD 6 0 ^^^ (v.getD 4 0&&& (v.getD 5 0 ^^^ v.getD 6 0)))<4294967296:=DR (bv.get 6) (Dn (bv.get 4))
  have c2:((v.getD 0 0&&& v.getD 1 0)|||(v.getD 2 0&&& (v.getD 0 0|||v.getD 1 0)))<4294967296:=AGj (Dn (bv.get 0)) (Dn (bv.get 2))
  have s1:=AG1 (bv.get 4);have s0:=AG2 (bv.get 0);have b7:=bv.get 7;have bk:=ALw.get t;have bt:=bw.get t
  rw[Pn,PX,EY (by omega),Au,AKA hv,AKB hv bv,AKC hv bv,AKE hv bv hw bw (by omega) c1,AKF (bv.get 0) c2,
   AKG hv bv (by omega) (by omega),AKH,XO,AGp]
  refine(FC (b:=1) (by omega) _).trans ?_
  exact ih (t+1) _ .own (by omega) rfl (Zj bv t).1
theorem AQH (w:List Nat) (t:Nat):fv w t<4294967296:=Tq _ _
theorem AKJ (f:Fl) {st:List Nat} (hs:st.length=8) (K:V→Option (V×List V)):PW GZ (box st) K=K (uL .own st):=by
 unfold PW
 refine(AB (show Bv P 187 0 []=some (uL .own [])by simp[Bv,NJ,Bc,uL,QZ,AV,DJ,Ti]) _).trans ?_
 have c:Ad (box st) (V.weak GZ)=some (QZ st):=by
  simp[Ad,GZ,V.weak,box,rd,V.at,V.items]
  rw[List.take_of_length_le (by rw[OZ];omega)]
 exact AB (Zl NJ (Or.inl rfl) c (UE _) (UF _) (by rw[OZ];simp[QZ];omega) Ti) _
theorem AKK (p:List UInt8) (o m4:Nat) (ho:o<2^40) (st:List Nat) (kf:Fl) (hs:st.length=8) (bs:B32 st):
 ∀(n t:Nat) (w:List Nat),t+n=64→16≤t→w.length=t→B32 w→
 I9 (bL .own p) (uL kf BZ) GZ (.int .i64 (o:Int)) (uL .own w) (.int .i64 (t:Int)) m4 (box st)=
  Eh (bL .own p) (uL kf BZ) GZ (.int .i64 ((o+64:Nat):Int)) (box (MG (QV BZ (UD n t w) 64 0 st) 8 0 st)):=by
 intro n
 induction n with
 |zero=>
  intro t w ht h16 hw bw
  rw[Jz,KX,E8 (by omega),A7,AKJ .own hs,XM]
  exact AN0 p o m4 ho w st .own kf (by omega) bw hs bs 64 0 st .own rfl hs bs
 |succ n ih=>
  intro t w ht h16 hw bw
  rw[Jz,KX,EY (by omega),Au,PO,E8 (by omega),A7,
   AJ8 h16 (by omega) hw,AJ9 h16 (by omega) hw bw (Or.inl rfl),KY]
  refine(FC (b:=1) (by omega) _).trans ?_
  refine ih (t+1) (w++[fv w t]) (by omega) (by omega) (by simp[hw]) ?_
  intro x hx;rcases List.mem_append.1 hx with hx|hx
  ·exact bw x hx
  ·rw[List.mem_singleton.1 hx];exact AQH _ _
theorem AN1 (p:List UInt8) (o m4:Nat) (ho:o<2^40) (hp:o+64≤p.length) (st:List Nat) (kf:Fl) (hs:st.length=8) (bs:B32 st):
 ∀(n t:Nat) (w:List Nat),t+n=16→w.length=t→B32 w→
 I9 (bL .own p) (uL kf BZ) GZ (.int .i64 (o:Int)) (uL .own w) (.int .i64 (t:Int)) m4 (box st)=
  Eh (bL .own p) (uL kf BZ) GZ (.int .i64 ((o+64:Nat):Int)) (box (MG (QV BZ (UD 48 16 (YB ((p.drop o).take 64) n t w)) 64 0 st) 8 0 st)):=by
 intro n
 induction n with
 |zero=>
  intro t w ht hw bw
  rw[show t=16 by omega]at*
  exact AKK p o m4 ho st kf hs bs 48 16 w rfl (by omega) hw bw
 |succ n ih=>
  intro t w ht hw bw
  rw[Jz,KX,EY (by omega),Au,PO,EY (by omega),Au,XL]
  refine(X8 (a:=4) (by omega) _).trans<|(FC (by omega) _).trans<|(X8 (a:=4) (by omega) _).trans<|(FC (by omega) _).trans<|(FC (b:=4) (by omega) _).trans ?_
  refine(AB (ANo (f:= .own) (t:=5) (xs:=bytesOf p) F5 (a:=o+4*t) (b:=o+4*t+4) (by omega) (by rw[Ak];omega)) _).trans ?_
  rw[bytesOf_take,bytesOf_drop]
  refine(AJ7 (g:=Fl.cut .own) (by omega) (by omega) (Or.inl rfl) _).trans ?_
  rw[KY]
  refine(FC (b:=1) (by omega) _).trans ?_
  rw[ADl p o t (by omega) (by omega)]
  refine ih (t+1) _ (by omega) (by simp[hw]) ?_
  intro x hx;rcases List.mem_append.1 hx with hx|hx
  ·exact bw x hx
  ·rw[List.mem_singleton.1 hx];exact MC _ _
end
section
open Go AM
def J6 (st:List Nat):Nat→Nat→List UInt8
 |0,_=>[]
 |n+1,i=>[dg st (4*i),dg st (4*i+1),dg st (4*i+2),dg st (4*i+3)]++J6 st n (i+1)
def AG3 (st:List Nat):Nat→Nat→List UInt8
 |0,_=>[]
 |n+1,i=>dg st i::AG3 st n (i+1)
theorem YH {l:List UInt8} {t:Nat} {x:UInt8} (ht:t<l.length):(l.set t x).take (t+1)=l.take t++[x]:=by
 rw[List.take_add_one]
 simp[ht,List.take_set_of_le]
theorem Qb (st:List Nat):∀(n i:Nat) (w:List UInt8),i+n=w.length→FX st n i w=w.take i++AG3 st n i
 |0,i,w,h=>by rw[FX,AG3,List.append_nil,List.take_of_length_le (by omega)]
 |n+1,i,w,h=>by
  rw[FX,Qb st n (i+1) (w.set i (dg st i)) (by simp;omega),YH (by omega),AG3,List.append_assoc,List.singleton_append]
theorem Qc (st:List Nat):∀n i,AG3 st (4*n) (4*i)=J6 st n i
 |0,_=>rfl
 |n+1,i=>by
  have:=Qc st n (i+1)
  rw[J6,←this];rfl
theorem YI (st:List Nat):FX st 32 0 (List.replicate 32 0)=J6 st 8 0:=by
 rw[Qb st 32 0 _ (by simp),List.take_zero,List.nil_append];exact Qc st 8 0
theorem ACn (st:List Nat) (i j:Nat) (hj:j<4):dg st (4*i+j)=UInt8.ofNat (st.getD i 0/2^(24-8*j)%256):=by
 rw[dg,show(4*i+j)/4=i by omega,show(4*i+j)%4=j by omega]
theorem J7 (l:List UInt8):Eg (bytesOf l)=some l:=by
 induction l with
 |nil=>rfl
 |cons x l ih=>
  have:bytesOf (x::l)= .int .u8 (x.toNat:Int)::bytesOf l:=rfl
  rw[this]
  simp only[Eg,AM.byteOf,ih]
  simp
theorem AQI (a b c d:Nat) (ha:a<256) (hb:b<256) (hc:c<256) (hd:d<256):Bv P 68 4 [(0,.int .u8 (a:Int)),(1,.int .u8 (b:Int)),(2,.int .u8 (c:Int)),(3,.int .u8 (d:Int))]=some (bL .own [UInt8.ofNat a,UInt8.ofNat b,UInt8.ofNat c,UInt8.ofNat d]):=by
 simp[Bv,F5,Bc,OY,cp,Vf,List.replicate,AV,V.clean,DJ,bL,bytesOf,Nat.mod_eq_of_lt ha,Nat.mod_eq_of_lt hb,Nat.mod_eq_of_lt hc,Nat.mod_eq_of_lt hd]
theorem cv8 {B:Type} {h:List V} {x:Nat} (K:V→Option B):(conv P h 93 5 (.int .u64 (x:Int))).bind K=K (.int .u8 ((x%256:Nat):Int)):=by
 refine(AB (BQ NH ..) _).trans ?_
 rw[II]
theorem AKM {st:List Nat} (hs:st.length=8) (bs:B32 st) {l:List UInt8} {f:Fl} {i:Nat} (hi:i<8) (hl:l.length<1000) (K:V→Option (V×List V)):
 Pq GZ (bL .own l) (.int .i64 (i:Int)) (box st) K=K (bL .own (l++[dg st (4*i),dg st (4*i+1),dg st (4*i+2),dg st (4*i+3)])):=by
 have b:=Zr (bs.get i)
 have m:∀x,x%256<256:=fun x=>Nat.mod_lt _ (by decide)
 unfold Pq
 refine(YG hs hi _).trans<|(NS (b:=16777216) (by decide) b _).trans<|(cv8 _).trans ?_
 refine(YG hs hi _).trans<|(NS (b:=65536) (by decide) b _).trans<|(Qa (b:=256) (by decide) _).trans<|(cv8 _).trans ?_
 refine(YG hs hi _).trans<|(NS (b:=256) (by decide) b _).trans<|(Qa (b:=256) (by decide) _).trans<|(cv8 _).trans ?_
 refine(YG hs hi _).trans<|(Qa (b:=256) (by decide) _).trans<|(cv8 _).trans ?_
 refine(AB (AQI _ _ _ _ (m _) (m _) (m _) (m _)) _).trans ?_
 refine(AB (ANp (Or.inl rfl) (by simp;omega)) _).trans ?_
 rw[show dg st (4*i)=dg st (4*i+0)from rfl,ACn _ _ 0 (by omega),ACn _ _ 1 (by omega),ACn _ _ 2 (by omega),ACn _ _ 3 (by omega)]
 simp only[Nat.mod_mod]
 rw[show(2^(24-8*3):Nat)=1 from rfl,Nat.div_one]
theorem AKN {st:List Nat} (hs:st.length=8) (bs:B32 st):∀(n i:Nat) (l:List UInt8),i+n=8→l.length=4*i→
 Ko GZ (bL .own l) (.int .i64 (i:Int)) (box st)=some (.str (l++J6 st n i),[]):=by
 intro n
 induction n with
 |zero=>
  intro i l hi hl
  rw[NG,Po,E8 (by omega),A7,XY]
  refine(AB (show conv P (box st) 68 9 (bL .own l)=some (.str l)by simp[conv,EJ,J3,NH,bL,Ad,J7]) _).trans ?_
  rw[F9,J6,List.append_nil];rfl
 |succ n ih=>
  intro i l hi hl
  rw[NG,Po,EY (by omega),Au,AKM (f:= .own) hs bs (by omega) (by omega),XW,J6,←List.append_assoc]
  refine(FC (b:=1) (by omega) _).trans ?_
  exact ih (i+1) _ (by omega) (by simp;omega)
theorem AN2 (p:List UInt8) (kf:Fl) (hp:p.length<2^32):∀(n o:Nat) (st:List Nat),o+64*n=p.length→st.length=8→B32 st→
 Eh (bL .own p) (uL kf BZ) GZ (.int .i64 (o:Int)) (box st)=some (.str (FX (blocks n st (p.drop o)) 32 0 (List.replicate 32 0)),[]):=by
 intro n
 induction n with
 |zero=>
  intro o st ho hs bs
  rw[Pv,PN]
  refine Jf _ |>.trans ?_
  refine(E8 (by omega) _).trans ?_
  rw[A7,XU]
  refine(AB (show Bv P 68 0 []=some (bL .own [])by simp[Bv,F5,Bc,bL,bytesOf,AV,DJ,Vf]) _).trans ?_
  rw[XV,YI]
  exact AKN hs bs 8 0 [] rfl rfl
 |succ n ih=>
  intro o st ho hs bs
  rw[Pv,PN]
  refine Jf _ |>.trans ?_
  refine(EY (by omega) _).trans ?_
  rw[Au,XJ]
  refine(AB (show Bv P 187 0 []=some (uL .own [])by simp[Bv,NJ,Bc,uL,QZ,AV,DJ,Ti]) _).trans ?_
  rw[XK]
  refine(AN1 p o _ (by omega) (by omega) st kf hs bs 16 0 [] rfl rfl (by intro x hx;cases hx)).trans ?_
  rw[ANr]
  have:=ih (o+64) (Tt st ((p.drop o).take 64)) (by omega) (Ky _ bs hs).2 (Ky _ bs hs).1
  refine this.trans ?_
  rw[blocks,List.drop_drop]
theorem ADm:Bv P 187 8 [(0,.int .u64 1779033703),(1,.int .u64 3144134277),(2,.int .u64 1013904242),(3,.int .u64 2773480762),(4,.int .u64 1359893119),(5,.int .u64 2600822924),(6,.int .u64 528734635),(7,.int .u64 1541459225)]=some (uL .own EL):=by
 refine(AL0 1779033703 3144134277 1013904242 2773480762 1359893119 2600822924 528734635 1541459225).trans ?_
 kernel_rfl
theorem AN3 (N:Nat) (hN:N<2147483648):∀(n i:Nat) (p:List UInt8),i+n=8→(p.length+n)%64=0→p.length<2147483000→
 OC (bL .own p) (.int .u64 ((8*N:Nat):Int)) (.int .i64 ((n:Int)-1)) []=
  some (.str (FX (blocks ((p++Gm (8*N) n i).length/64) EL (p++Gm (8*N) n i)) 32 0 (List.replicate 32 0)),[]):=by
 intro n
 induction n with
 |zero=>
  intro i p hi hp hl
  rw[Px,VY]
  refine(ANt (by omega) _).trans ?_
  rw[A7,AB0]
  refine(AB ADk _).trans ?_
  rw[XH]
  refine(AB ADm _).trans<|(AB (show DV [] (uL .own EL)=some (GZ,box EL)by simp[DV,uL,OZ,AGx,GZ,box]) _).trans ?_
  rw[XI]
  simp only[Gm,List.append_nil]
  have:=AN2 p .sh (by omega) (p.length/64) 0 EL (by omega) AGx ALx
  rw[List.drop_zero]at this
  exact this
 |succ n ih=>
  intro i p hi hp hl
  rw[Px,VY]
  refine(ANs (by omega) _).trans ?_
  rw[Au,ABy,show((n+1:Nat):Int)-1=(n:Int)by omega]
  refine(X8 (a:=8) (by omega) _).trans<|(AJ5 (by omega) _).trans ?_
  refine(NS (Nat.pow_pos (by decide)) (by omega) _).trans<|(Qa (b:=256) (by decide) _).trans<|(cv8 _).trans ?_
  refine(app1 (Or.inl rfl) (by omega) _ (Nat.mod_lt _ (by decide)) _).trans ?_
  rw[ABz]
  refine(AB (Jc _ _ _) _).trans ?_
  rw[wrap_i64 (by omega) (by omega),Nat.mod_mod]
  have:=ih (i+1) (p++[lb (8*N) i]) (by omega) (by simp;omega) (by simp;omega)
  rw[List.append_assoc,List.singleton_append,lb,show 56-8*i=8*n by omega]at this
  rw[Gm,lb,show 56-8*i=8*n by omega]
  exact this
theorem AN4 (s:List UInt8) (hs:s.length<2147483648):∀(n:Nat) (p:List UInt8),MH p.length=n→p.length+n<2147482000→
 OB (.str s) (bL .own p) []=
  some (.str (FX (blocks ((p++List.replicate n 0++Gm (8*s.length) 8 0).length/64) EL (p++List.replicate n 0++Gm (8*s.length) 8 0)) 32 0 (List.replicate 32 0)),[]):=by
 intro n
 induction n with
 |zero=>
  intro p hp hl
  rw[Py,VX]
  refine Jf _ |>.trans ?_
  refine(AB (NK _ _ _ (by omega)) _).trans ?_
  rw[show(p.length:Int).tmod 64=((p.length%64:Nat):Int)by rfl]
  simp only[MH]at hp
  refine(Zq (by omega) _).trans ?_
  rw[A7,ABw,List.replicate_zero,List.append_nil]
  refine(AB (show lenV P 9 (.str s)=some (.int .i64 (s.length:Int))by simp[lenV,EJ]) _).trans ?_
  refine(X8 (a:=8) (by omega) _).trans ?_
  refine(AB (BQ D5 ..) _).trans ?_
  rw[wrap_u64 (by omega) (by omega),ABx]
  exact AN3 s.length hs 8 0 p rfl (by omega) (by omega)
 |succ n ih=>
  intro p hp hl
  rw[Py,VX]
  refine Jf _ |>.trans ?_
  refine(AB (NK _ _ _ (by omega)) _).trans ?_
  rw[show(p.length:Int).tmod 64=((p.length%64:Nat):Int)by rfl]
  simp only[MH]at hp
  refine(Zp (by omega) _).trans ?_
  rw[Au,ABv]
  refine(app1 (Or.inl rfl) (by omega) 0 (by omega) _).trans ?_
  have:=ih (p++[0]) (by simp only[MH,List.length_append,List.length_cons,List.length_nil];omega) (by simp;omega)
  rw[List.append_assoc p [0],List.singleton_append]at this
  exact this
theorem AG4 {B:Type} {h:List V} {s:List UInt8} (hs:s.length≤2147483648) (K:V→Option B):(conv P h 9 68 (.str s)).bind K=K (bL .own s):=
 AB (by simp[conv,J3,NH,Dh,hs,bL]) K
theorem IV {s:List UInt8} (hs:s.length<2147480000):Cl 123 [.str s] []=some (.str (ZF s),[]):=by
 rw[AJM,ABt,ABu]
 refine(AG4 (by omega) _).trans ?_
 refine(app1 (Or.inl rfl) (by omega) 128 (by omega) _).trans ?_
 have z:MH (s.length+1)<64:=Nat.mod_lt _ (by decide)
 exact AN4 s (by omega) (MH (s.length+1)) (s++[128]) (by simp) (by simp;omega)
end
section
open Go AM
theorem Oa:∀(cs:List UInt8) (k v:Nat),k≤9→v<128^k→(EH k v cs).1<18446744073709551616
 |[],k,v,_,_=>by simp[EH]
 |c::cs,k,v,h9,hv=>by
  have hc:c.toNat<256:=c.toNat_lt
  have e:128^k=2^(7*k):=by rw[Nat.pow_mul]
  simp only[EH]
  split
  ·simp
  ·rename_i hb
   have hm:c.toNat%128<128:=Nat.mod_lt _ (by omega)
   split
   ·by_cases h:k=9
    ·have hm1:c.toNat%128≤1:=by omega
     subst h
     have:c.toNat%128*128^9≤1*128^9:=Nat.mul_le_mul_right _ hm1
     simp only;omega
    ·have hp:128^k≤2^56:=by rw[e];exact Nat.pow_le_pow_right (by omega) (by omega)
     have:c.toNat%128*128^k≤127*2^56:=Nat.mul_le_mul (by omega) hp
     simp only;omega
   ·rename_i h128
    refine Oa cs (k+1) _ (by omega) ?_
    have:c.toNat%128*128^k≤127*128^k:=Nat.mul_le_mul_right _ (by omega)
    rw[Nat.pow_succ];omega
def Gn (m:Nat) (s:List UInt8):Nat×Nat×List UInt8:=
 let r:=EH 0 0 s
 if r.2.2≠0 then(0,r.2.2,[])else if m<r.1 then(0,22,[])else if s.length-r.2.1<r.1 then(0,20,[])else(r.2.1+r.1,0,(s.drop r.2.1).take r.1)
theorem AG5 (m:Nat) (s:List UInt8):(Gn m s).1≤s.length:=by
 have:=OV s 0 0
 simp only[Gn]
 split
 ·simp
 ·split
  ·simp
  ·split
   ·simp
   ·simp only;omega
theorem JD (h h':List V) (a b:Int) (hl:h'.length=h.length):AQ h.length h' (.tup [.int .i64 a,.int .i64 b])=some (.tup [.int .i64 a,.int .i64 b],h'):=by
 simp[AQ,V.unmut,CZ,V.norm,AU,V.clean,AV,V.over,DK,←hl]
theorem AG6 {h:List V} {s:List UInt8} (hl:s.length<4611686018427387904) (m:Nat) (hm:m<4611686018427387904):
 Reads (.clo 109 [.ref h.length [] 3,.ref (h.length+1) [] 9]) (h++[.int .i64 (m:Int),.str []]) s (Gn m s).1 (Gn m s).2.1 (h++[.int .i64 (m:Int),.str (Gn m s).2.2]):=by
 intro k
 rw[Gj k (by kernel_rfl) (by kernel_rfl)]
 have e1:AU ([V.str s]++[V.ref h.length [] 3,V.ref (h.length+1) [] 9])=[V.str s,V.ref h.length [] 3,V.ref (h.length+1) [] 9]:=rfl
 have g0:∀x,(h++[V.int .i64 (m:Int),x])[h.length]?=some (V.int .i64 (m:Int)):=by intro x;simp
 have g1:∀x,(h++[V.int .i64 (m:Int),x])[h.length+1]?=some x:=by
  intro x;rw[List.getElem?_append_right (by omega)];simp
 have l0:∀x,AY (h++[V.int .i64 (m:Int),x]) 3 (.ref h.length [] 3)=some (.int .i64 (m:Int)):=fun x=>BG (CS (g0 x))
 have s1:∀y:List UInt8,D8 P (h++[V.int .i64 (m:Int),V.str []]) 9 (.ref (h.length+1) [] 9) (.str y)=some (h++[V.int .i64 (m:Int),V.str y]):=by
  intro y
  rw[CB (g1 _) (by simp[BJ,K_9,BK,EJ]) rfl,List.set_append_right _ _ (by omega)]
  simp
 have hn:=Oa s 0 0 (by omega) (by decide)
 have hk:=OV s 0 0
 rw[e1,AJA]
 have e2:∀h,AA h [V.str s]=[V.str s]:=fun h=>rfl
 generalize hr:EH 0 0 s=r at hn hk
 obtain⟨n,q,e⟩:=r
 simp only at hn hk
 have htl:Gn m s=if e≠0 then(0,e,[])else if m<n then(0,22,[])else if s.length-q<n then(0,20,[])else(q+n,0,(s.drop q).take n):=by simp only[Gn,hr]
 simp only[ABP,ABQ,ABR,ABS,ABT,ABU,ABV,ABW,e2,Tn s hl,hr,AGi,Option.bind_some,ext,List.getElem?_cons_zero,List.getElem?_cons_succ,
  b_neq,FQ,l0,b_lss,List.all_cons,List.all_nil,V.okE,Bool.and_self,if_true]
 by_cases he:e=0
 ·subst he
  have hm0:¬((m:Int)<0):=by omega
  simp only[Int.natCast_zero,ne_eq,not_true_eq_false,if_false,hm0,BQ D5,wrap_u64 (show(0:Int)≤(m:Int)by omega) (show(m:Int)<18446744073709551616 by omega),Option.bind_some,b_gtr,FQ,Int.ofNat_lt]
  by_cases h1:m<n
  ·simp only[h1,if_true,htl,ne_eq,not_true_eq_false,if_false]
   rw[JD _ _ _ _ (by simp)];rfl
  ·have hcast:((s.length:Int)-(q:Int))=((s.length-q:Nat):Int):=by omega
   simp only[h1,if_false,ACg EJ,Option.bind_some,Jc,hcast]
   rw[wrap_i64 (by omega) (by omega)]
   simp only[BQ D5,Option.bind_some]
   rw[wrap_u64 (by omega) (by omega)]
   simp only[b_gtr,Option.bind_some,FQ,Int.ofNat_lt]
   by_cases h2:s.length-q<n
   ·simp only[h2,if_true,htl,h1,ne_eq,not_true_eq_false,if_false]
    rw[JD _ _ _ _ (by simp)];rfl
   ·have hsum:((q:Int)+(n:Int))=((q+n:Nat):Int):=by omega
    have hsl:JY P 9 (.str s) (some (.int .i64 (q:Int))) (some (.int .i64 ((q+n:Nat):Int))) none=some (.str ((s.drop q).take n)):=by
     have b1:((q+n:Nat):Int)≤(s.length:Int):=by omega
     have b2:(q:Int)≤((q+n:Nat):Int):=by omega
     simp only[JY,AAh,EJ,Option.isNone_none,Bool.and_self,if_true,Bh,Option.bind_some]
     rw[if_pos ⟨by omega,b1⟩]
     simp only[Option.bind_some]
     rw[if_pos ⟨by omega,b2⟩]
     simp only[Option.map_some,Int.toNat_natCast,Option.some.injEq,V.str.injEq]
     rw[List.drop_take,Nat.add_sub_cancel_left]
    have hq2:q+n≤s.length:=by omega
    simp only[h2,if_false,ABX,ABY,BQ IG,Option.bind_some]
    rw[wrap_i64 (show -9223372036854775808≤(n:Int)by omega) (by omega)]
    simp only[Dt,Option.bind_some,hsum]
    rw[wrap_i64 (by omega) (by omega)]
    rw[hsl,Option.bind_some,s1,Option.bind_some]
    simp only[htl,h1,h2,ne_eq,not_true_eq_false,if_false]
    rw[JD _ _ _ _ (by simp)];rfl
 ·have:¬((e:Int)=0):=by omega
  simp only[this,ne_eq,not_false_eq_true,if_true,htl,he]
  rw[JD _ _ _ _ (by simp)];rfl
def textIn (m:Nat) (s:List UInt8) (e:Nat):List UInt8×List UInt8×Nat:=
 if e≠0 then([],s,e)else let r:=Gn m s;(r.2.2,if r.2.1=0 then s.drop r.1 else s,r.2.1)
theorem Vr {h:List V} {id:Nat} {s:List UInt8} {e:Nat} (m:Nat) (hm:m<4611686018427387904) (hh:h[id]?=some (BA s e)) (hl:s.length<4611686018427387904):
 Cl 83 [CP id,.int .i64 (m:Int)] h=some (.str (textIn m s e).1,h.set id (BA (textIn m s e).2.1 (textIn m s e).2.2)):=by
 have hid:=IJ hh
 have t0:BJ P 3 (.int .i64 (m:Int))=true:=by simp[BJ,K_3,BK,IG]
 have e0:h++[V.int .i64 (m:Int)]++[zero P 9]=h++[V.int .i64 (m:Int),zero P 9]:=by simp
 have g1:∀(g:List V) (x y:V),g.length=h.length→(g++[x,y])[h.length+1]?=some y:=by
  intro g x y hg;rw[List.getElem?_append_right (by omega)];simp[hg]
 have len1:(h++[V.int .i64 (m:Int)]).length=h.length+1:=by simp
 have s0:D8 P (h++[V.int .i64 (m:Int),zero P 9]) 9 (.ref (h.length+1) [] 9) (.str [])=some (h++[V.int .i64 (m:Int),V.str []]):=by
  rw[CB (g1 h _ _ rfl) (by simp[BJ,K_9,BK,EJ]) rfl,List.set_append_right _ _ (by omega)]
  simp
 have hh1:∀x y:V,(h++[x,y])[id]?=some (BA s e):=fun x y=>Kr _ hh
 rw[ANC]
 simp only[AGD,AGE,AGF,AGG,t0,V.under,Bool.and_self,if_true,len1,e0,s0,Option.bind_some]
 have cap:List.all [V.ref h.length [] 3,V.ref (h.length+1) [] 9] V.capOk=true:=rfl
 simp only[cap,if_true,Option.bind_some]
 have e1:AU [CP id,V.clo 109 [V.ref h.length [] 3,V.ref (h.length+1) [] 9]]=[CP id,V.clo 109 [V.ref h.length [] 3,V.ref (h.length+1) [] 9]]:=rfl
 rw[e1]
 have e5:∀(g:List V) (y:List UInt8),g.length=h.length→AY (g++[V.int .i64 (m:Int),V.str y]) 9 (.ref (h.length+1) [] 9)=some (.str y):=fun g y hg=>BG (CS (g1 g _ _ hg))
 by_cases he:e=0
 ·subst he
  rw[Vl (hh1 _ _) (AG6 hl m hm) (hh1 _ _) (AG5 m s)]
  simp only[Option.bind_some]
  rw[Vk _ _ hid]
  have e4:∀y:V,(h.set id y++[V.int .i64 (m:Int),V.str (Gn m s).2.2]).take (h++[V.int .i64 (m:Int),V.str []]).length=h.set id y++[V.int .i64 (m:Int),V.str (Gn m s).2.2]:=by
   intro y
   rw[show(h++[V.int .i64 (m:Int),V.str []]).length=(h.set id y++[V.int .i64 (m:Int),V.str (Gn m s).2.2]).length by simp,take_len]
  rw[e4,e5 _ _ (by simp),Option.bind_some,F9,take_set]
  simp only[textIn,ne_eq,not_true_eq_false,if_false]
  by_cases h2:(Gn m s).2.1=0<;>simp[h2]
 ·rw[QS (hh1 _ _) he]
  simp only[Option.bind_some]
  rw[e5 h _ rfl,Option.bind_some,F9,X3]
  simp only[textIn,he,ne_eq,not_false_eq_true,if_true]
  rw[Kv hh]
def zz (n:Nat):Int:=if n%2=0 then((n/2:Nat):Int)else -1-((n/2:Nat):Int)
theorem AG7 {a:Nat} (ha:a<9223372036854775808):AO .xor (.int .i64 (a:Int)) (.int .i64 0)=some (.int .i64 (a:Int)):=by
 rw[ACf]
 have e:(BitVec.ofInt (IntKind.i64).bits (a:Int) ^^^ BitVec.ofInt (IntKind.i64).bits 0).toNat=a:=by
  have:BitVec.ofInt (IntKind.i64).bits 0=0#64:=rfl
  rw[this,BV]
  show(BitVec.ofNat 64 a ^^^ 0#64).toNat=a
  rw[BitVec.xor_zero,BitVec.toNat_ofNat,Nat.mod_eq_of_lt (by omega)]
 rw[e,wrap_i64 (by omega) (by omega)]
theorem AG8 {a:Nat} (ha:a<9223372036854775808):AO .xor (.int .i64 (a:Int)) (.int .i64 (-1))=some (.int .i64 (-1-(a:Int))):=by
 rw[ACf]
 have e:(BitVec.ofInt (IntKind.i64).bits (a:Int) ^^^ BitVec.ofInt (IntKind.i64).bits (-1)).toNat=18446744073709551615-a:=by
  have:BitVec.ofInt (IntKind.i64).bits (-1)=BitVec.allOnes 64:=rfl
  rw[this,BV]
  show(BitVec.ofNat 64 a ^^^ BitVec.allOnes 64).toNat=_
  rw[BitVec.xor_allOnes,BitVec.toNat_not,BitVec.toNat_ofNat,Nat.mod_eq_of_lt (by omega)]
 have e2:((18446744073709551615-a:Nat):Int)=18446744073709551615-(a:Int):=by omega
 have e3:IntKind.wrap .i64 (18446744073709551615-(a:Int))= -1-(a:Int):=by rw[Go.IntKind.wrap_i64];omega
 rw[e,e2,e3]
theorem AN5 {h:List V} {id:Nat} {s:List UInt8} {e:Nat} (hh:h[id]?=some (BA s e)) (hl:s.length<4611686018427387904):
 Cl 131 [CP id] h=some (.int .i64 (zz (AP s e).1),h.set id (BA (AP s e).2.1 (AP s e).2.2)):=by
 have hn:(AP s e).1<18446744073709551616:=by
  simp only[AP]
  split
  ·simp
  ·exact Oa s 0 0 (by omega) (by decide)
 rw[AJR]
 have e1:AU [CP id]=[CP id]:=rfl
 simp only[AB5,AB6,AB7,e1,G8 hh hl,Option.bind_some]
 generalize (AP s e).1=n at hn
 rw[Tj _ _ _ _ (by omega)]
 have hs:Int.fdiv (n:Int) (2^min (1:Int).toNat (IntKind.u64).bits)=((n/2:Nat):Int):=by
  have:min (1:Int).toNat (IntKind.u64).bits=1:=by decide
  rw[this]
  simp[Int.fdiv_eq_ediv]
 rw[hs,Option.bind_some,BQ ACc,wrap_i64 (by omega) (by omega),Option.bind_some,show(1:Int)=((1:Nat):Int)from rfl,u64_and hn (by omega),Option.bind_some,Nat.and_one_is_mod,BQ ACc,wrap_i64 (by omega) (by omega),Option.bind_some]
 by_cases h2:n%2=0
 ·have:un .neg (.int .i64 ((n%2:Nat):Int))=some (.int .i64 0):=by rw[h2];rfl
  rw[this,Option.bind_some,AG7 (by omega),Option.bind_some,EK]
  simp only[zz,h2,if_true,List.length_set]
  rw[show h.length=(h.set id (BA (AP s e).2.1 (AP s e).2.2)).length by simp,take_len]
 ·have:un .neg (.int .i64 ((n%2:Nat):Int))=some (.int .i64 (-1)):=by rw[show n%2=1 by omega];rfl
  rw[this,Option.bind_some,AG8 (by omega),Option.bind_some,EK]
  simp only[zz,h2,if_false]
  rw[show h.length=(h.set id (BA (AP s e).2.1 (AP s e).2.2)).length by simp,take_len]
end
section
open Go AM
def Jh:Nat→Nat→List UInt8
 |0,_=>[]
 |f+1,n=>if n<128 then[UInt8.ofNat n]else UInt8.ofNat (n%128+128)::Jh f (n/128)
def BR (n:Nat):List UInt8:=Jh 10 n
theorem Aq:∀f n,(Jh f n).length≤f
 |0,_=>by simp[Jh]
 |f+1,n=>by
  rw[Jh];split
  ·simp
  ·have:=Aq f (n/128);simp;omega
def Bg (f:Fl) (l:List UInt8):V:= .agg 124 [bL f l]
def Dy (id:Nat):V:= .ref id [] 125
abbrev OK (f:Fl):Prop:=f= .own∨f= .nil
theorem ASv (a:Nat) (ha:a<256):AO .or (.int .u8 (a:Int)) (.int .u8 128)=some (.int .u8 ((a%128+128:Nat):Int)):=by
 have h:∀x:Fin 256,x.val|||128=x.val%128+128:=by decide
 have e:=h ⟨a,ha⟩
 rw[show(128:Int)=((128:Nat):Int)from rfl,ANe,BV,BV,show(BitVec.ofNat (IntKind.u8).bits a|||BitVec.ofNat (IntKind.u8).bits 128).toNat=a|||128 from AGg (w:=8) (by omega) (by omega),e,wrap_u8 (by omega) (by omega)]
theorem Qd {B:Type} {id:Nat} (K:V→Option B):(Bj (Dy id)).bind K=K (Dy id):=rfl
theorem Zt {B:Type} {id:Nat} (K:V→Option B):(Ap P 125 0 (Dy id)).bind K=K (.ref id [0] 68):=
 AB (FT (P:=P) (t:=125) (f:=0) AGc rfl (by rw[ANa];decide) id []) K
def wk:Fl→Fl
 | .own=> .sh
 |f=>f
theorem ACo (f:Fl) (l:List UInt8):(bL f l).weak=bL (wk f) l:=by cases f<;>rfl
theorem Vs {B:Type} {h:List V} {id:Nat} {f:Fl} {l:List UInt8} (hh:h[id]?=some (Bg f l)) (K:V×List V→Option B):
 (BN h 68 (.ref id [0] 68)).bind K=K (bL f l,h.set id (Bg (wk f) l)):=by
 refine AB ?_ K
 have r:rd h id [0]=some (bL f l):=J4 hh rfl
 simp[BN,r,wr,hh,Bg,V.upd,ACo]
theorem tyB (f:Fl) (l:List UInt8):BJ P 68 (bL f l)=true:=by simp[BJ,F5,bL]
theorem unB (n:Nat) {f:Fl} (hf:f≠ .lent) (l:List UInt8):(bL f l).under n=true:=by cases f<;>first|rfl|exact absurd rfl hf
theorem Zu {B:Type} {h:List V} {id:Nat} {f:Fl} {l m:List UInt8} (hh:h[id]?=some (Bg f l)) (K:List V→Option B):
 (D8 P h 68 (.ref id [0] 68) (bL .own m)).bind K=K (h.set id (Bg .own m)):=by
 refine AB ?_ K
 exact G7 hh rfl (tyB _ _) (unB _ (by intro h;cases h) _)
theorem JE (h:List V):Cl 45 [] h=some (Dy h.length,h++[Bg .nil []]):=by
 rw[AMp,AE7,AE8]
 have b:WU P 125 []=some (Bg .nil []):=by simp[WU,AGc,ANb,Bc,Bg,bL,bytesOf]
 refine(AB b _).trans ?_
 have w:(Bg .nil []).weak=Bg .nil []:=rfl
 have c:(BJ P 125 (Bg .nil [])&&V.under h.length (Bg .nil []))=true:=by simp[BJ,AGc,Bg,V.under,Ac,bL]
 rw[w,if_pos c];rfl
theorem AN6 {n:Nat} {h:List V}:(if(List.all [] V.okE)=true then AQ n h (V.tup [])else none)=some (.tup [],h.take n):=rfl
theorem Gp {h:List V} {id:Nat} {a b:V}:(h.set id a).set id b=h.set id b:=by simp
theorem AN7 {id:Nat} (h0:List V) (hid:id<h0.length):∀(k n:Nat) (f:Fl) (l:List UInt8) (h:List V),h=h0.set id (Bg f l)→OK f→n<128^k→n<18446744073709551616→0<k→l.length+k≤2147483648→
 VE (Dy id) (.int .u64 (n:Int)) h0.length h=some (.tup [],h0.set id (Bg .own (l++Jh k n))):=by
 intro k
 induction k with
 |zero=>intro n f l h _ _ _ _ h0 _;omega
 |succ k ih=>
  intro n f l h eh hf hn h64 _ hl
  have hh:h[id]?=some (Bg f l):=by rw[eh,List.getElem?_set];simp[hid]
  have hw:(h.set id (Bg (wk f) l))[id]?=some (Bg (wk f) l):=Ku _ hh
  rw[ADf,AE9]
  by_cases hb:n<128
  ·refine(ANt (by omega) _).trans ?_
   rw[A7,AFC]
   refine(Qd _).trans<|(Zt _).trans<|(Vs hh _).trans ?_
   refine(cv8 _).trans<|(app1 hf (by omega) _ (Nat.mod_lt _ (by decide)) _).trans<|(Qd _).trans<|(Zt _).trans<|(Zu hw _).trans ?_
   rw[AN6,Gp,Nat.mod_eq_of_lt (by omega),Jh,if_pos hb,eh,Gp,List.take_of_length_le (by simp)]
  ·refine(ANs (by omega) _).trans ?_
   rw[Au,AFA]
   refine(Qd _).trans<|(Zt _).trans<|(Vs hh _).trans ?_
   refine(cv8 _).trans<|(AB (ASv _ (Nat.mod_lt _ (by decide))) _).trans<|(app1 hf (by omega) _ (by omega) _).trans<|(Qd _).trans<|(Zt _).trans<|(Zu hw _).trans ?_
   rw[AFB]
   have hs:AO .shr (.int .u64 (n:Int)) (.int .u64 7)=some (.int .u64 ((n/128:Nat):Int)):=by
    rw[Tj _ _ _ _ (by omega)]
    have:min ((7:Int)).toNat (IntKind.u64).bits=7:=by decide
    rw[this];exact congrArg _ (congrArg _ (QU n 7))
   refine(AB hs _).trans ?_
   rw[Gp,show n%256%128=n%128 by omega,Jh,if_neg hb]
   have k0:0<k:=by
    rcases Nat.eq_zero_or_pos k with h|h
    ·subst h;simp at hn;omega
    ·exact h
   have:=ih (n/128) .own (l++[UInt8.ofNat (n%128+128)]) (h.set id (Bg .own (l++[UInt8.ofNat (n%128+128)]))) (by rw[eh,Gp]) (Or.inl rfl) (by rw[Nat.pow_succ]at hn;omega) (by omega) k0 (by simp;omega)
   rw[List.append_assoc,List.singleton_append]at this
   exact this
theorem EZ {h:List V} {id n:Nat} {f:Fl} {l:List UInt8} (hh:h[id]?=some (Bg f l)) (hf:OK f) (hn:n<18446744073709551616) (hl:l.length+10≤2147483648):
 Cl 46 [Dy id,.int .u64 (n:Int)] h=some (.tup [],h.set id (Bg .own (l++BR n))):=by
 rw[AMq]
 exact AN7 h (IJ hh) 10 n f l h (Kv hh).symm hf (Nat.lt_of_lt_of_le hn (by decide)) hn (by omega) hl
theorem AL1 (id:Nat) (x:Int) (k:IntKind):AU [Dy id,.int k x]=[Dy id,.int k x]:=rfl
theorem Zv {h:List V} {id:Nat} {f:Fl} {l s:List UInt8} (hh:h[id]?=some (Bg f l)) (hf:OK f) (hl:l.length+10+s.length≤2147483648):
 Cl 48 [Dy id,.str s] h=some (.tup [],h.set id (Bg .own (l++BR s.length++s))):=by
 have nl:=Aq 10 s.length
 rw[AMr,AFD]
 refine(AB (show lenV P 9 (.str s)=some (.int .i64 (s.length:Int))by simp[lenV,EJ]) _).trans ?_
 refine(AB (BQ D5 ..) _).trans ?_
 rw[wrap_u64 (by omega) (by omega),AL1]
 refine(AB (EZ hh hf (by omega) (by omega)) _).trans ?_
 have h2:=Ku (Bg .own (l++BR s.length)) hh
 rw[AFE]
 refine(Qd _).trans<|(Zt _).trans<|(Vs h2 _).trans ?_
 refine(AB (Zl F5 (Or.inl rfl) (y:=V.str s) (ys:=bytesOf s) rfl (CU s) (Eu s) (by rw[Ak,Ak,List.length_append,BR];omega) Vf) _).trans ?_
 rw[←IQ]
 refine(Qd _).trans<|(Zt _).trans<|(Zu (Ku _ h2) _).trans ?_
 rw[AN6,Gp,Gp,List.take_of_length_le (by simp)]
theorem G9 {h:List V} {id:Nat} {f:Fl} {l:List UInt8} (hh:h[id]?=some (Bg f l)):Cl 50 [Dy id] h=some (.str l,h):=by
 rw[AMt,AFO,AFP]
 refine(Qd _).trans<|(Zt _).trans ?_
 have r:rd h id [0]=some (bL f l):=J4 hh rfl
 refine(AB (show BL h 68 (.ref id [0] 68)=some (bL (wk f) l)by simp[BL,BG r,ACo]) _).trans ?_
 refine(AB (show conv P h 68 9 (bL (wk f) l)=some (.str l)by simp[conv,EJ,J3,NH,bL,Ad,J7]) _).trans ?_
 rw[F9,List.take_of_length_le (Nat.le_refl _)]
def Lm (n:Int):Nat:=if 0≤n then(2*n).toNat else(-2*n-1).toNat
theorem UG {h:List V} {id:Nat} {n:Int} {f:Fl} {l:List UInt8} (hh:h[id]?=some (Bg f l)) (hf:OK f) (h1: -9223372036854775808≤n) (h2:n<9223372036854775808) (hl:l.length+10≤2147483648):
 Cl 97 [Dy id,.int .i64 n] h=some (.tup [],h.set id (Bg .own (l++BR (Lm n)))):=by
 rw[ANP,AGZ]
 refine(AB (BQ D5 ..) _).trans ?_
 refine(AB (AGe _ _ _ _ (by omega)) _).trans ?_
 refine(AB (Tj _ _ _ _ (by omega)) _).trans ?_
 have m1:min ((1:Int)).toNat (IntKind.u64).bits=1:=by decide
 have m63:min ((63:Int)).toNat (IntKind.i64).bits=63:=by decide
 rw[m1,m63]
 refine(AB (BQ D5 ..) _).trans ?_
 have key:AO .xor (.int .u64 (IntKind.wrap .u64 (IntKind.wrap .u64 n*2^1))) (.int .u64 (IntKind.wrap .u64 (n.fdiv (2^63))))=some (.int .u64 ((Lm n:Nat):Int)):=by
  rw[GH,GH,GH]
  by_cases hn:0≤n
  ·have e1:n%18446744073709551616*2^1%18446744073709551616=(((2*n).toNat:Nat):Int):=by omega
   have e2:n.fdiv (2^63)%18446744073709551616=((0:Nat):Int):=by
    rw[Int.fdiv_eq_ediv_of_nonneg _ (by decide)];omega
   rw[e1,e2,u64_xor (by omega) (by omega),Nat.xor_zero,Lm,if_pos hn]
  ·have e1:n%18446744073709551616*2^1%18446744073709551616=((18446744073709551615-(-2*n-1).toNat:Nat):Int):=by omega
   have e2:n.fdiv (2^63)%18446744073709551616=((18446744073709551615:Nat):Int):=by
    rw[Int.fdiv_eq_ediv_of_nonneg _ (by decide)];omega
   have hb:(-2*n-1).toNat<18446744073709551616:=by omega
   rw[e1,e2,u64_xor (by omega) (by omega),Lm,if_neg hn]
   generalize (-2*n-1).toNat=m at hb
   have hx:∀x:Nat,x<18446744073709551616→x ^^^ 18446744073709551615=18446744073709551615-x:=by
    intro x hx
    apply Nat.eq_of_testBit_eq
    intro i
    rw[show 18446744073709551615-x=2^64-(x+1)by omega,Nat.testBit_two_pow_sub_succ (n:=64) hx i,Nat.testBit_xor,show(18446744073709551615:Nat)=2^64-1 by rfl,Nat.testBit_two_pow_sub_one]
    by_cases hi:i<64
    ·simp[hi]
    ·have:x.testBit i=false:=Nat.testBit_lt_two_pow (Nat.lt_of_lt_of_le hx (Nat.pow_le_pow_right (n:=2) (i:=64) (by decide) (by omega)))
     simp[hi,this]
   rw[hx _ (by omega)]
   congr 3;omega
 refine(AB key _).trans ?_
 rw[AL1]
 have hu:Lm n<18446744073709551616:=by simp only[Lm];split<;>omega
 refine(AB (EZ hh hf hu hl) _).trans ?_
 rw[AN6,List.take_of_length_le (by simp)]
end
end Go.Proofs.YtiegkempfolgcaaGreatDoor
