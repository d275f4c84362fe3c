/-
  Part of the proof of a statement about the given program: an abstract machine over its code, the simulation, its functions' equations, what they compute.
-/
import Derived.Sort.AssemblyPlain
import Derived.Test.YtaghnpjlhmgioaaDoorMg10
import Derived.Test.YtaghnpjlhmgioaaDoorMg13
import Derived.Test.YtaghnpjlhmgioaaDoorMg4
import Derived.Test.YtaghnpjlhmgioaaDoorMg5
import Derived.Test.YtaghnpjlhmgioaaDoorMg7
set_option linter.unusedVariables false
set_option linter.unusedSimpArgs false
set_option linter.unusedSectionVars false
set_option maxRecDepth 100000
noncomputable section
namespace Go.Proofs.YtaghnpjlhmgioaaDoor
section
open Go AM
namespace Ed
theorem ltE_iff (x y:Edg):ltE x y=true↔(x.fr<y.fr∨x.fr=y.fr∧x.to<y.to):=by
 rw[ltE,decide_eq_true_eq,cmpE]
 by_cases h:x.fr=y.fr
 ·rw[if_pos h];constructor<;>intro k<;>omega
 ·rw[if_neg h];constructor<;>intro k<;>omega
theorem ltE_iff' (x y:Edg):ltE x y=false↔¬(x.fr<y.fr∨x.fr=y.fr∧x.to<y.to):=by
 rw[←ltE_iff,Bool.not_eq_true]
theorem ltM_swo:Sort.SWO ltE where
 irrefl x:=by rw[ltE_iff'];omega
 trans x y z:=by simp only[ltE_iff];omega
 ntrans x y z:=by simp only[ltE_iff'];omega
section
variable {h0:List V} {id N:Nat} (hid:id<h0.length) (hb62:N<1000000000000000000)
include hid hb62
def EH (h0:List V) (id N a b limit:Nat) (wb wp:Bool) (d:Array Edg):Option (V×List V):=
 DF (winM id N) (iv a) (iv b) (iv limit) cm (.bool wb) (.bool wp) h0.length (HB h0 id d)
def Ff (h0:List V) (id N a b limit:Nat) (wb wp:Bool) (pivot:Nat) (d3:Array Edg):Option (V×List V):=
 GU (winM id N) (iv a) cm (iv pivot) (HB h0 id d3) fun t97_20 h_21=>
 V.ite t97_20
 (IV (winM id N) (iv a) (iv b) cm (iv pivot) h_21 fun t15_22 h_23=>
 IW t15_22 fun t1_24=>
 DF (winM id N) t1_24 (iv b) (iv limit) cm (.bool wb) (.bool wp) h0.length h_23)
 (GV (winM id N) (iv a) (iv b) cm (iv pivot) h_21 fun t16_25 t17_26 h_27=>
 GX t17_26 fun t11_28=>
 GY (iv a) (iv b) t16_25 fun t18_29 t19_30=>
 GZ (iv (b-a)) fun t20_31=>
 Gf t18_29 t19_30 fun t125_32=>
 V.ite t125_32
 (IX t18_29 t20_31 fun t10_33=>
 IY (winM id N) (iv a) (iv limit) cm t16_25 h_27 fun h_34=>
 IZ t16_25 fun t1_35=>
 DF (winM id N) t1_35 (iv b) (iv limit) cm t10_33 t11_28 h0.length h_34)
 (Ia t19_30 t20_31 fun t10_36=>
 Ib (winM id N) (iv b) (iv limit) cm t16_25 h_27 fun h_37=>
 Ic t16_25 fun t2_38=>
 DF (winM id N) (iv a) t2_38 (iv limit) cm t10_36 t11_28 h0.length h_37))
theorem pd_ins {a b limit:Nat} {wb wp:Bool} {d:Array Edg} (hN:N=d.size) (hab:a≤b) (hb:b≤N) (h12:b-a≤12):EH h0 id N a b limit wb wp d=some (.tup [],HB h0 id (Sort.insertionSort ltE d a b)):=by
 rw[EH,Kv,Rl]
 refine(Bj (by omega) (by omega) _).trans ?_
 rw[Rn]
 refine(Uh (by omega) _).trans ?_
 rw[Ak,AAD]
 refine(AB (TW hid hb62 hN hb hab) _).trans ?_
 exact Ea _
theorem pd_heap {a b:Nat} {wb wp:Bool} {d:Array Edg} (hN:N=d.size) (hab:a≤b) (hb:b≤N) (h12:¬b-a≤12):EH h0 id N a b 0 wb wp d=some (.tup [],HB h0 id (Sort.heapSort ltE d a b)):=by
 rw[EH,Kv,Rl]
 refine(Bj (by omega) (by omega) _).trans ?_
 rw[Rn]
 refine(Ja (by omega) _).trans ?_
 rw[AV,Vm]
 refine(Ya (by omega) _).trans ?_
 rw[Ak,AAE]
 refine(AB (ADV hid hb62 hN hb (by omega)) _).trans ?_
 exact Ea _
theorem Tj {a b limit:Nat} {wb wp:Bool} {d:Array Edg} (hN:N=d.size) (hab:a≤b) (hb:b≤N) (h12:¬b-a≤12) (hl:¬limit=0) (h62:limit<1000000000000000000)
 {d1 d2:Array Edg} {limit1 pivot:Nat} {c:Nat×Sort.Hint} {hint:Sort.Hint} {pi:Array Edg×Bool}
 (e1:d1=if(!wb)=true then Sort.breakPatterns d a b else d) (el:limit1=if(!wb)=true then limit-1 else limit) (ec:c=Sort.choosePivot ltE d1 a b)
 (e2:d2=if c.2= .decreasing then Sort.reverseRange d1 a b else d1) (ep:pivot=if c.2= .decreasing then(b-1)-(c.1-a)else c.1)
 (eh:hint=if c.2= .decreasing then Sort.Hint.increasing else c.2) (epi:pi=if(wb&&wp&&decide (hint= .increasing))=true then Sort.partialInsertionSort ltE d2 a b else(d2,false)):
 EH h0 id N a b limit wb wp d=if pi.2=true then some (.tup [],HB h0 id pi.1)else Ff h0 id N a b limit1 wb wp pivot pi.1:=by
 have s1:d1.size=d.size:=by
  rw[e1];split
  ·exact(Sort.breakPatterns_holds d a b hab (by omega)).1
  ·rfl
 have hN1:N=d1.size:=by rw[s1];exact hN
 have s2:d2.size=d1.size:=by
  rw[e2];split
  ·exact(Sort.reverseRange_holds d1 a b hab (by omega)).1
  ·rfl
 have hN2:N=d2.size:=by rw[s2];exact hN1
 have hc0:=Sort.choosePivot_holds ltE d1 a b (by omega)
 rw[←ec]at hc0
 have st3:∀hi:Nat,hi=Uj hint→(MX (.bool wb) (.bool wp) (iv hi) fun t75_18=>
  jn (fun h_19=>GU (winM id N) (iv a) cm (iv pivot) h_19 fun t97_20 h_21=>
   V.ite t97_20
   (IV (winM id N) (iv a) (iv b) cm (iv pivot) h_21 fun t15_22 h_23=>
   IW t15_22 fun t1_24=>
   DF (winM id N) t1_24 (iv b) (iv limit1) cm (.bool wb) (.bool wp) h0.length h_23)
   (GV (winM id N) (iv a) (iv b) cm (iv pivot) h_21 fun t16_25 t17_26 h_27=>
   GX t17_26 fun t11_28=>
   GY (iv a) (iv b) t16_25 fun t18_29 t19_30=>
   GZ (iv (b-a)) fun t20_31=>
   Gf t18_29 t19_30 fun t125_32=>
   V.ite t125_32
   (IX t18_29 t20_31 fun t10_33=>
   IY (winM id N) (iv a) (iv limit1) cm t16_25 h_27 fun h_34=>
   IZ t16_25 fun t1_35=>
   DF (winM id N) t1_35 (iv b) (iv limit1) cm t10_33 t11_28 h0.length h_34)
   (Ia t19_30 t20_31 fun t10_36=>
   Ib (winM id N) (iv b) (iv limit1) cm t16_25 h_27 fun h_37=>
   Ic t16_25 fun t2_38=>
   DF (winM id N) (iv a) t2_38 (iv limit1) cm t10_36 t11_28 h0.length h_37)))
  (fun(j2:List V→Option (V×List V))=>V.ite t75_18
   (Jw (winM id N) (iv a) (iv b) cm (HB h0 id d2) fun t80_39 h_40=>
   V.ite t80_39
   (if(List.all [] V.okE)=true then AY h0.length h_40 (V.tup [])else none)
   (j2 h_40))
   (j2 (HB h0 id d2))))=if pi.2=true then some (.tup [],HB h0 id pi.1)else Ff h0 id N a b limit1 wb wp pivot pi.1:=by
  intro hi ehi
  rw[MX]
  have no:pi=(d2,false)→(jn (fun h_19=>GU (winM id N) (iv a) cm (iv pivot) h_19 fun t97_20 h_21=>
   V.ite t97_20
   (IV (winM id N) (iv a) (iv b) cm (iv pivot) h_21 fun t15_22 h_23=>
   IW t15_22 fun t1_24=>
   DF (winM id N) t1_24 (iv b) (iv limit1) cm (.bool wb) (.bool wp) h0.length h_23)
   (GV (winM id N) (iv a) (iv b) cm (iv pivot) h_21 fun t16_25 t17_26 h_27=>
   GX t17_26 fun t11_28=>
   GY (iv a) (iv b) t16_25 fun t18_29 t19_30=>
   GZ (iv (b-a)) fun t20_31=>
   Gf t18_29 t19_30 fun t125_32=>
   V.ite t125_32
   (IX t18_29 t20_31 fun t10_33=>
   IY (winM id N) (iv a) (iv limit1) cm t16_25 h_27 fun h_34=>
   IZ t16_25 fun t1_35=>
   DF (winM id N) t1_35 (iv b) (iv limit1) cm t10_33 t11_28 h0.length h_34)
   (Ia t19_30 t20_31 fun t10_36=>
   Ib (winM id N) (iv b) (iv limit1) cm t16_25 h_27 fun h_37=>
   Ic t16_25 fun t2_38=>
   DF (winM id N) (iv a) t2_38 (iv limit1) cm t10_36 t11_28 h0.length h_37)))
   (fun(j2:List V→Option (V×List V))=>V.ite (.bool false)
    (Jw (winM id N) (iv a) (iv b) cm (HB h0 id d2) fun t80_39 h_40=>
    V.ite t80_39
    (if(List.all [] V.okE)=true then AY h0.length h_40 (V.tup [])else none)
    (j2 h_40))
    (j2 (HB h0 id d2))))=if pi.2=true then some (.tup [],HB h0 id pi.1)else Ff h0 id N a b limit1 wb wp pivot pi.1:=by
   intro e
   rw[e,jn,AV];rfl
  cases wb with
  |false=>exact no (by rw[epi,if_neg (by simp)])
  |true=>
   cases wp with
   |false=>exact no (by rw[epi,if_neg (by simp)])
   |true=>
    rw[Ak,Ak]
    by_cases hh:hint= .increasing
    ·refine(Ya (by rw[ehi,hh];rfl) _).trans ?_
     rw[jn,Ak,Jw]
     refine(AB (WS hid hb62 hN2 hb (by omega)) _).trans ?_
     have ee:pi=Sort.partialInsertionSort ltE d2 a b:=by rw[epi,if_pos (by simp[hh])]
     rw[←ee,Dv]
     by_cases hp:pi.2=true
     ·rw[if_pos hp,if_pos hp];exact Ea _
     ·rw[if_neg hp,if_neg hp];rfl
    ·refine(Yb (by rw[ehi];cases hint<;>first|exact absurd rfl hh|(simp[Uj])) _).trans ?_
     exact no (by rw[epi,if_neg (by simp[hh])])
 have Fj:(Ro (winM id N) (iv a) (iv b) cm (HB h0 id d1) fun t13_11 t14_12 h_13=>
  Rq t14_12 fun t56_14=>
  jn (fun t13_15 t14_16 h_17=>MX (.bool wb) (.bool wp) t14_16 fun t75_18=>
  jn (fun h_19=>GU (winM id N) (iv a) cm t13_15 h_19 fun t97_20 h_21=>
   V.ite t97_20
   (IV (winM id N) (iv a) (iv b) cm t13_15 h_21 fun t15_22 h_23=>
   IW t15_22 fun t1_24=>
   DF (winM id N) t1_24 (iv b) (iv limit1) cm (.bool wb) (.bool wp) h0.length h_23)
   (GV (winM id N) (iv a) (iv b) cm t13_15 h_21 fun t16_25 t17_26 h_27=>
   GX t17_26 fun t11_28=>
   GY (iv a) (iv b) t16_25 fun t18_29 t19_30=>
   GZ (iv (b-a)) fun t20_31=>
   Gf t18_29 t19_30 fun t125_32=>
   V.ite t125_32
   (IX t18_29 t20_31 fun t10_33=>
   IY (winM id N) (iv a) (iv limit1) cm t16_25 h_27 fun h_34=>
   IZ t16_25 fun t1_35=>
   DF (winM id N) t1_35 (iv b) (iv limit1) cm t10_33 t11_28 h0.length h_34)
   (Ia t19_30 t20_31 fun t10_36=>
   Ib (winM id N) (iv b) (iv limit1) cm t16_25 h_27 fun h_37=>
   Ic t16_25 fun t2_38=>
   DF (winM id N) (iv a) t2_38 (iv limit1) cm t10_36 t11_28 h0.length h_37)))
  (fun(j2:List V→Option (V×List V))=>V.ite t75_18
   (Jw (winM id N) (iv a) (iv b) cm h_17 fun t80_39 h_40=>
   V.ite t80_39
   (if(List.all [] V.okE)=true then AY h0.length h_40 (V.tup [])else none)
   (j2 h_40))
   (j2 h_17)))
  (fun(j1:V→V→List V→Option (V×List V))=>V.ite t56_14
   (Rt (winM id N) (iv a) (iv b) cm h_13 fun h_41=>
   Ru (iv a) (iv b) t13_11 fun t13_42=>
   Rw fun t14_43=>
   j1 t13_42 t14_43 h_41)
   (j1 t13_11 t14_12 h_13)))=if pi.2=true then some (.tup [],HB h0 id pi.1)else Ff h0 id N a b limit1 wb wp pivot pi.1:=by
  rw[Ro]
  refine(AB (ABj hid hb62 hN1 hb (by omega)) _).trans<|(Yg _ _ _).trans<|(Yh _ _ _).trans ?_
  rw[←ec,Rq]
  by_cases hd:c.2= .decreasing
  ·refine(Ya (by rw[hd];rfl) _).trans ?_
   rw[jn,Ak,Rt]
   rw[if_pos hd]at e2 ep eh
   refine(AB (WR hid hb62 hN1 hb (by omega)) _).trans ?_
   rw[Ru]
   refine(Bj (b:=1) (by omega) (by omega) _).trans<|(Bj (by omega) (by omega) _).trans<|(Bj (by omega) (by omega) _).trans ?_
   rw[Rw,←e2,←ep]
   exact st3 1 (by rw[eh];rfl)
  ·refine(Yb (by cases hc2:c.2<;>first|exact absurd hc2 hd|(simp[Uj])) _).trans ?_
   rw[jn,AV]
   rw[if_neg hd]at e2 ep eh
   rw[←e2,←ep]
   exact st3 _ (by rw[eh])
 rw[EH,Kv,Rl]
 refine(Bj (by omega) (by omega) _).trans ?_
 rw[Rn]
 refine(Ja (by omega) _).trans ?_
 rw[AV,Vm]
 refine(Yb (by omega) _).trans ?_
 rw[AV,AAF]
 refine(TV _ _).trans ?_
 rw[jn]
 cases wb with
 |true=>
  rw[if_neg (by simp)]at e1 el
  rw[Bool.not_true,AV,←e1,←el]
  exact Fj
 |false=>
  rw[if_pos (by simp)]at e1 el
  rw[Bool.not_false,Ak,AAG]
  refine(AB (ABn hid hb62 hN hb (by omega)) _).trans ?_
  rw[AAH]
  refine(Bj (b:=1) (by omega) (by omega) _).trans ?_
  rw[←e1,←el]
  exact Fj
end
end Ed
end
section
open Go AM
namespace Ed
section
variable {h0:List V} {id N:Nat} (hid:id<h0.length) (hb62:N<1000000000000000000)
include hid hb62
theorem LJ {a b limit pivot:Nat} {wb wp:Bool} {d:Array Edg} (hN:N=d.size) (hp:pivot<N) (ha:a≤N) (K:V→List V→Option (V×List V)):
 GU (winM id N) (iv a) cm (iv pivot) (HB h0 id d) K=K (.bool (decide (a>0)&& !ltE d[a-1]! d[pivot]!)) (HB h0 id d):=by
 rw[GU]
 by_cases h:a>0
 ·refine(Yd (by omega) _).trans ?_
  rw[Ak]
  refine(Bj (b:=1) (by omega) (by omega) _).trans<|(EM hid hN (by omega) _).trans<|(EM hid hN hp _).trans<|(J5 _ _ (fun b h1=>(un .not b).bind fun t=>_)).trans<|(TV _ _).trans ?_
  rw[decide_eq_true h,Bool.true_and]
 ·refine(Ye (by omega) _).trans ?_
  rw[AV,decide_eq_false h,Bool.false_and]
theorem ADa {a b limit pivot:Nat} {wb wp:Bool} {d:Array Edg} (hN:N=d.size) (hp:pivot<N) (hab:a<b) (hb:b≤N) (h:(decide (a>0)&& !ltE d[a-1]! d[pivot]!)=true)
 {mid:Nat} {d4:Array Edg} (hx:Sort.partitionEqual ltE d a b pivot=(mid,d4)):Ff h0 id N a b limit wb wp pivot d=EH h0 id N mid b limit wb wp d4:=by
 rw[Ff,LJ hid hb62 (b:=b) (limit:=limit) (wb:=wb) (wp:=wp) hN hp (by omega),h,Ak,IV]
 refine(AB (Yf hid hb62 hN hb hab hp) _).trans ?_
 rw[hx,IW];rfl
theorem WT (a b limit:Nat) (d:Array Edg):Cl 50 [winM id N,iv a,iv b,iv limit,cm] (HB h0 id d)=EH h0 id N a b limit true true d:=by
 rw[AFN,AAB,AAC,CB];rfl
theorem AH6 {B:Type} {n:Nat} (hn:n<1000000000000000000) (K:V→Option B):(AL .quo (iv n) (.int .i64 8)).bind K=K (iv (n/8)):=by
 refine(AB (Ls _ _ _ (by omega)) _).trans ?_
 rw[show(n:Int).tdiv 8=((n/8:Nat):Int)by rfl,Ad (by omega) (by omega)]<;>rfl
theorem AH7 {B:Type} {a b:Nat} (K:V→Option B):(AL .geq (iv a) (iv b)).bind K=K (.bool (decide (a≥b))):=by
 refine(AB (b_geq _ _ _) _).trans ?_
 congr 2
 simp
theorem AF6 {a b limit pivot:Nat} {wb wp:Bool} {d:Array Edg} (hN:N=d.size) (hp:pivot<N) (hab:a<b) (hb:b≤N) (h:¬(decide (a>0)&& !ltE d[a-1]! d[pivot]!)=true)
 {mid:Nat} {ap:Bool} {d4 dl:Array Edg} (hx:Sort.partition ltE d a b pivot=(mid,ap,d4)) (h1:a≤mid) (h2:mid<b) (hlt:mid-a<b-mid)
 (hl:EH h0 id N a mid limit true true d4=some (.tup [],HB h0 id dl)):
 Ff h0 id N a b limit wb wp pivot d=EH h0 id N (mid+1) b limit (decide (mid-a≥(b-a)/8)) ap dl:=by
 rw[Ff,LJ hid hb62 (b:=b) (limit:=limit) (wb:=wb) (wp:=wp) hN hp (by omega),Bool.eq_false_iff.2 h,AV,GV]
 refine(AB (Xt hid hb62 hN hb hab hp) _).trans<|(Yg _ _ _).trans<|(Yh _ _ _).trans ?_
 rw[hx,GX,GY]
 simp only[]
 refine(Bj (by omega) (by omega) _).trans<|(Bj (by omega) (by omega) _).trans ?_
 rw[GZ]
 refine(AH6 hid hb62 (by omega) _).trans ?_
 rw[Gf]
 refine(Ug (by omega) _).trans ?_
 rw[Ak,IX]
 refine(AH7 hid hb62 _).trans ?_
 rw[IY]
 refine(AB ((WT hid hb62 a mid limit d4).trans hl) _).trans ?_
 rw[IZ]
 refine(Bd (b:=1) (by omega) _).trans ?_
 rfl
theorem AF7 {a b limit pivot:Nat} {wb wp:Bool} {d:Array Edg} (hN:N=d.size) (hp:pivot<N) (hab:a<b) (hb:b≤N) (h:¬(decide (a>0)&& !ltE d[a-1]! d[pivot]!)=true)
 {mid:Nat} {ap:Bool} {d4 dl:Array Edg} (hx:Sort.partition ltE d a b pivot=(mid,ap,d4)) (h1:a≤mid) (h2:mid<b) (hlt:¬mid-a<b-mid)
 (hl:EH h0 id N (mid+1) b limit true true d4=some (.tup [],HB h0 id dl)):
 Ff h0 id N a b limit wb wp pivot d=EH h0 id N a mid limit (decide (b-mid≥(b-a)/8)) ap dl:=by
 rw[Ff,LJ hid hb62 (b:=b) (limit:=limit) (wb:=wb) (wp:=wp) hN hp (by omega),Bool.eq_false_iff.2 h,AV,GV]
 refine(AB (Xt hid hb62 hN hb hab hp) _).trans<|(Yg _ _ _).trans<|(Yh _ _ _).trans ?_
 rw[hx,GX,GY]
 simp only[]
 refine(Bj (by omega) (by omega) _).trans<|(Bj (by omega) (by omega) _).trans ?_
 rw[GZ]
 refine(AH6 hid hb62 (by omega) _).trans ?_
 rw[Gf]
 refine(Nq (by omega) _).trans ?_
 rw[AV,Ia]
 refine(AH7 hid hb62 _).trans ?_
 rw[Ib]
 refine(Bd (b:=1) (by omega) _).trans ?_
 refine(AB ((WT hid hb62 (mid+1) b limit d4).trans hl) _).trans ?_
 rw[Ic]
 rfl
theorem AF8 (d:Array Edg) (a b limit:Nat) (wb wp:Bool):a≤b→b≤d.size→N=d.size→limit<1000000000000000000→Sort.Below ltE a b d→
 EH h0 id N a b limit wb wp d=some (.tup [],HB h0 id (Sort.pdq ltE d a b limit wb wp)):=by
 fun_induction Sort.pdq ltE d a b limit wb wp
 case case1 d a b limit wb wp h12=>intro hab hb hN _ _;exact pd_ins hid hb62 hN hab (by omega) h12
 case case2 d a b wb wp h12=>intro hab hb hN _ _;exact pd_heap hid hb62 hN hab (by omega) h12
 case case3 d a b limit wb wp h12 hl d1 c d2 hint pi hpi2=>
  intro hab hb hN hlim hB
  exact(Tj hid hb62 (limit1:=if(!wb)=true then limit-1 else limit) (pivot:=if c.2= .decreasing then(b-1)-(c.1-a)else c.1) hN hab (by omega) h12 hl hlim rfl rfl rfl rfl rfl rfl rfl).trans (if_pos hpi2)
 case case4 d a b limit0 wb wp h12 hl d1 limit c d2 pivot hint pi hpi2 d3 hc mid d4 hx hg ih1=>
  intro hab hb hN hlim hB
  have s1:Sort.PermIn a b d d1:=Sort.step_break d hab hb _
  have b1:b≤d1.size:=by rw[s1.1];exact hb
  have s2:Sort.PermIn a b d1 d2:=Sort.step_reverse Sort.reverseRange_holds d1 hab b1 _
  have b2:b≤d2.size:=by rw[s2.1];exact b1
  have B2:Sort.Below ltE a b d2:=(hB.perm hb s1).perm b1 s2
  have s3:=Sort.step_partial (Sort.partialInsertionSort_holds (lt:=ltE)) ltM_swo d2 (a:=a) (b:=b) (by omega) b2 B2 ((wb&&wp&&decide (hint=Sort.Hint.increasing))=true)
  have s3':Sort.PermIn a b d2 d3:=s3.1
  have b3:b≤d3.size:=by rw[s3'.1];exact b2
  have B3:Sort.Below ltE a b d3:=B2.perm b2 s3'
  have hN3:N=d3.size:=by rw[s3'.1,s2.1,s1.1];exact hN
  have hc0:=Sort.choosePivot_holds ltE d1 a b (by omega)
  have hpv:a≤pivot∧pivot<b:=Sort.pivot_range hc0.1 hc0.2 _
  have hc':=hc
  simp only[Bool.and_eq_true,decide_eq_true_eq,Bool.not_eq_true']at hc'
  obtain⟨_,hm2,hs4,hB4,hfin⟩:=Sort.round_eq ltM_swo (Sort.partitionEqual_holds ltE) hc'.1 hpv.1 hpv.2 b3 B3 hc'.2 hx
  have hlim1:limit≤limit0:=by show(if(!wb)=true then limit0-1 else limit0)≤limit0;split<;>omega
  refine(Tj hid hb62 (limit1:=limit) (pivot:=pivot) hN hab (by omega) h12 hl hlim rfl rfl rfl rfl rfl rfl rfl).trans ((if_neg hpi2).trans ?_)
  refine(ADa hid hb62 hN3 (by omega) (by omega) (by omega) hc hx).trans ?_
  exact ih1 hm2 (by rw[hs4];exact b3) (by rw[hs4];exact hN3) (by omega) hB4
 case case5 d a b limit wb wp h12 hl d1 c d2 pivot hint pi hpi2 d3 hc mid d4 hx hg=>
  intro hab hb hN hlim hB
  have s1:Sort.PermIn a b d d1:=Sort.step_break d hab hb _
  have b1:b≤d1.size:=by rw[s1.1];exact hb
  have s2:Sort.PermIn a b d1 d2:=Sort.step_reverse Sort.reverseRange_holds d1 hab b1 _
  have b2:b≤d2.size:=by rw[s2.1];exact b1
  have B2:Sort.Below ltE a b d2:=(hB.perm hb s1).perm b1 s2
  have s3:=Sort.step_partial (Sort.partialInsertionSort_holds (lt:=ltE)) ltM_swo d2 (a:=a) (b:=b) (by omega) b2 B2 ((wb&&wp&&decide (hint=Sort.Hint.increasing))=true)
  have s3':Sort.PermIn a b d2 d3:=s3.1
  have b3:b≤d3.size:=by rw[s3'.1];exact b2
  have B3:Sort.Below ltE a b d3:=B2.perm b2 s3'
  have hN3:N=d3.size:=by rw[s3'.1,s2.1,s1.1];exact hN
  have hc0:=Sort.choosePivot_holds ltE d1 a b (by omega)
  have hpv:a≤pivot∧pivot<b:=Sort.pivot_range hc0.1 hc0.2 _
  simp only[Bool.and_eq_true,decide_eq_true_eq,Bool.not_eq_true']at hc
  obtain⟨g1,g2,_⟩:=Sort.round_eq ltM_swo (Sort.partitionEqual_holds ltE) hc.1 hpv.1 hpv.2 b3 B3 hc.2 hx
  exact absurd ⟨g1,g2⟩ hg
 case case6 d a b limit0 wb wp h12 hl d1 limit c d2 pivot hint pi hpi2 d3 hc mid ap d4 hx hg hlt ih3 ih2 ih1=>
  intro hab hb hN hlim hB
  have s1:Sort.PermIn a b d d1:=Sort.step_break d hab hb _
  have b1:b≤d1.size:=by rw[s1.1];exact hb
  have s2:Sort.PermIn a b d1 d2:=Sort.step_reverse Sort.reverseRange_holds d1 hab b1 _
  have b2:b≤d2.size:=by rw[s2.1];exact b1
  have B2:Sort.Below ltE a b d2:=(hB.perm hb s1).perm b1 s2
  have s3:=Sort.step_partial (Sort.partialInsertionSort_holds (lt:=ltE)) ltM_swo d2 (a:=a) (b:=b) (by omega) b2 B2 ((wb&&wp&&decide (hint=Sort.Hint.increasing))=true)
  have s3':Sort.PermIn a b d2 d3:=s3.1
  have b3:b≤d3.size:=by rw[s3'.1];exact b2
  have B3:Sort.Below ltE a b d3:=B2.perm b2 s3'
  have hN3:N=d3.size:=by rw[s3'.1,s2.1,s1.1];exact hN
  have hc0:=Sort.choosePivot_holds ltE d1 a b (by omega)
  have hpv:a≤pivot∧pivot<b:=Sort.pivot_range hc0.1 hc0.2 _
  obtain⟨g1,g2,hs4,hBa,hBr,hleft,_⟩:=Sort.round_part ltM_swo (Sort.partition_holds ltE) hpv.1 hpv.2 b3 B3 hx
  have hlim1:limit≤limit0:=by show(if(!wb)=true then limit0-1 else limit0)≤limit0;split<;>omega
  have L:=Sort.pdq_sorts ltE ltM_swo d4 a mid limit true true g1 (by rw[hs4];omega) hBa
  obtain⟨hBL,hfin⟩:=hleft _ L.1 L.2
  refine(Tj hid hb62 (limit1:=limit) (pivot:=pivot) hN hab (by omega) h12 hl hlim rfl rfl rfl rfl rfl rfl rfl).trans ((if_neg hpi2).trans ?_)
  refine(AF6 hid hb62 hN3 (by omega) (by omega) (by omega) hc hx g1 g2 hlt (ih3 g1 (by rw[hs4];omega) (by rw[hs4];exact hN3) (by omega) hBa)).trans ?_
  exact ih1 (by omega) (by rw[L.1.1,hs4];exact b3) (by rw[L.1.1,hs4];exact hN3) (by omega) hBL
 case case7 d a b limit0 wb wp h12 hl d1 limit c d2 pivot hint pi hpi2 d3 hc mid ap d4 hx hg hlt ih3 ih2 ih1=>
  intro hab hb hN hlim hB
  have s1:Sort.PermIn a b d d1:=Sort.step_break d hab hb _
  have b1:b≤d1.size:=by rw[s1.1];exact hb
  have s2:Sort.PermIn a b d1 d2:=Sort.step_reverse Sort.reverseRange_holds d1 hab b1 _
  have b2:b≤d2.size:=by rw[s2.1];exact b1
  have B2:Sort.Below ltE a b d2:=(hB.perm hb s1).perm b1 s2
  have s3:=Sort.step_partial (Sort.partialInsertionSort_holds (lt:=ltE)) ltM_swo d2 (a:=a) (b:=b) (by omega) b2 B2 ((wb&&wp&&decide (hint=Sort.Hint.increasing))=true)
  have s3':Sort.PermIn a b d2 d3:=s3.1
  have b3:b≤d3.size:=by rw[s3'.1];exact b2
  have B3:Sort.Below ltE a b d3:=B2.perm b2 s3'
  have hN3:N=d3.size:=by rw[s3'.1,s2.1,s1.1];exact hN
  have hc0:=Sort.choosePivot_holds ltE d1 a b (by omega)
  have hpv:a≤pivot∧pivot<b:=Sort.pivot_range hc0.1 hc0.2 _
  obtain⟨g1,g2,hs4,hBa,hBr,_,hright⟩:=Sort.round_part ltM_swo (Sort.partition_holds ltE) hpv.1 hpv.2 b3 B3 hx
  have hlim1:limit≤limit0:=by show(if(!wb)=true then limit0-1 else limit0)≤limit0;split<;>omega
  have L:=Sort.pdq_sorts ltE ltM_swo d4 (mid+1) b limit true true (by omega) (by rw[hs4];exact b3) hBr
  obtain⟨hBL,hfin⟩:=hright _ L.1 L.2
  refine(Tj hid hb62 (limit1:=limit) (pivot:=pivot) hN hab (by omega) h12 hl hlim rfl rfl rfl rfl rfl rfl rfl).trans ((if_neg hpi2).trans ?_)
  refine(AF7 hid hb62 hN3 (by omega) (by omega) (by omega) hc hx g1 g2 hlt (ih3 (by omega) (by rw[hs4];exact b3) (by rw[hs4];exact hN3) (by omega) hBr)).trans ?_
  exact ih1 g1 (by rw[L.1.1,hs4];omega) (by rw[L.1.1,hs4];exact hN3) (by omega) hBL
 case case8 d a b limit wb wp h12 hl d1 c d2 pivot hint pi hpi2 d3 hc mid ap d4 hx hg=>
  intro hab hb hN hlim hB
  have s1:Sort.PermIn a b d d1:=Sort.step_break d hab hb _
  have b1:b≤d1.size:=by rw[s1.1];exact hb
  have s2:Sort.PermIn a b d1 d2:=Sort.step_reverse Sort.reverseRange_holds d1 hab b1 _
  have b2:b≤d2.size:=by rw[s2.1];exact b1
  have B2:Sort.Below ltE a b d2:=(hB.perm hb s1).perm b1 s2
  have s3:=Sort.step_partial (Sort.partialInsertionSort_holds (lt:=ltE)) ltM_swo d2 (a:=a) (b:=b) (by omega) b2 B2 ((wb&&wp&&decide (hint=Sort.Hint.increasing))=true)
  have s3':Sort.PermIn a b d2 d3:=s3.1
  have b3:b≤d3.size:=by rw[s3'.1];exact b2
  have B3:Sort.Below ltE a b d3:=B2.perm b2 s3'
  have hN3:N=d3.size:=by rw[s3'.1,s2.1,s1.1];exact hN
  have hc0:=Sort.choosePivot_holds ltE d1 a b (by omega)
  have hpv:a≤pivot∧pivot<b:=Sort.pivot_range hc0.1 hc0.2 _
  obtain⟨g1,g2,_⟩:=Sort.round_part ltM_swo (Sort.partition_holds ltE) hpv.1 hpv.2 b3 B3 hx
  exact absurd ⟨g1,g2⟩ hg
theorem sortFunc_am {d:Array Edg} (hN:N=d.size):
 Cl 41 [winM id N,cm] (HB h0 id d)=some (.tup [],HB h0 id (Sort.sort ltE d)):=by
 rw[AFJ,Z8]
 have l:Vf P 22 (winM id N).weak=some (iv N):=by simp[Vf,winM,V.weak,AFk,iv]
 refine(AB l _).trans ?_
 rw[Z9]
 refine(AB (Fv ABZ ..) _).trans ?_
 rw[ET (by omega) (by omega)]
 refine(AB (ABm (n:=N) (by omega)) _).trans ?_
 have hbl:Sort.bitsLen N≤62:=(Sort.bitsLen_le_iff N 62).2 (by omega)
 have:=AF8 hid hb62 d 0 N (Sort.bitsLen N) true true (Nat.zero_le _) (by omega) hN (by omega) (Or.inl rfl)
 refine(AB ((WT hid hb62 0 N (Sort.bitsLen N) d).trans this) _).trans ?_
 rw[CB,Ea,hN];rfl
end
end Ed
end
section
open Go AM
structure E0 where
 fr:Int
 to:Int
 w:Int
 deriving DecidableEq
abbrev tE:TypeId:=44
def GK (e:E0):V:= .agg tE [.int .i64 e.fr,.int .i64 e.to,.int .i64 e.w]
@[go_sem] theorem AJw (x:E0):(GK x).pl=true:=(rfl)
@[go_sem] theorem AJA (l:List E0):Kw (l.map GK)=true:=Ef (fun _=>rfl) l
@[go_sem] theorem ADb (x:E0):Gy tE (GK x)=true:=AEg ..
theorem QV {l:List E0} {i:Nat} (h:i<l.length):(l.map GK)[i]?=some (GK l[i]):=by simp[h]
structure Grf where
 n:Int
 es:List E0
abbrev vG (f:Fl) (g:Grf):V:= .agg 23 [.int .i64 g.n,.lst 45 f (g.es.map GK)]
def Eb (n:Int) (e:E0):Bool:=decide (e.fr<0)||decide (n≤e.fr)||decide (e.to<0)||decide (n≤e.to)||decide (e.w<0)||decide (1048576<e.w)
abbrev rG:V:= .ref 0 [] 24
theorem AF9 (n:Int) (l:V) (e:E0):Cl 29 [GK e,rG] [.agg 23 [.int .i64 n,l]]=some (.bool (Eb n e),[.agg 23 [.int .i64 n,l]]):=by
 rw[AFF]
 simp only[GK]
 repeat' first|rfl|refine AHo (fun _=> ?_) (fun _=> ?_)|refine AHp (fun _=> ?_) (fun _=> ?_)|simp(disch:=first|assumption|omega|(with_reducible rfl)|(simp only[go_sem];done)|(simp only[go_sem];omega)|fail) only[↓reduceIte,↓AA,Nat.reduceAdd,go_sem]
 all_goals (simp_all [Eb]<;>omega)
abbrev ADc:V:= .clo 29 [rG]
theorem AH8 {R:Type} (n:Int) (l:V) (e:E0) (k:V→List V→Option R):BQ P Df W ADc [GK e] [.agg 23 [.int .i64 n,l]] k=k (.bool (Eb n e)) [.agg 23 [.int .i64 n,l]]:=
 Yc k (by kernel_rfl) (by kernel_rfl) (AF9 n l e)
def Tm {α:Type} (p:α→Bool):Nat→List α→Int
 |_,[]=> -1
 |i,x::l=>if p x=true then(i:Int)else Tm p (i+1) l
theorem Uk {α:Type} (p:α→Bool):∀(l:List α) (i:Nat),0≤Tm p i l↔l.any p=true
 |[],i=>by simp[Tm]
 |x::l,i=>by
  rw[Tm,List.any_cons]
  by_cases h:p x=true
  ·rw[if_pos h,h];simp
  ·rw[if_neg h,Uk p l (i+1)];simp[h]
theorem ADd {α:Type} (p:α→Bool) (l:List α) (i:Nat):decide (0≤Tm p i l)=l.any p:=by
 rw[Bool.eq_iff_iff,decide_eq_true_eq];exact Uk p l i
theorem ADe (n:Int) (L:V) (es:List E0) (hl:es.length<1000000) (f:Fl):∀(m i:Nat),i+m=es.length→
 Rj (.lst 45 f (es.map GK)) ADc (.int .i64 (es.length:Int)) (.int .i64 (i:Int)) 1 [.agg 23 [.int .i64 n,L]]=
  some (.int .i64 (Tm (Eb n) i (es.drop i)),[.agg 23 [.int .i64 n,L]]):=by
 intro m
 induction m with
 |zero=>
  intro i hi
  rw[List.drop_eq_nil_of_le (by omega),Pz]
  simp(disch:=first|assumption|omega|(with_reducible rfl)|(simp only[go_sem];done)|(simp only[go_sem];omega)|fail) only[↓reduceIte,↓AA,Nat.reduceAdd,go_sem,Tm]
 |succ m ih=>
  intro i hi
  have h:i<es.length:=by omega
  have:=ih (i+1) (by omega)
  rw[List.drop_eq_getElem_cons h,Tm,Pz]
  by_cases ho:Eb n es[i]=true
  ·rw[if_pos ho]
   simp(disch:=first|assumption|omega|(with_reducible rfl)|(simp only[go_sem];done)|(simp only[go_sem];omega)|fail) only[↓reduceIte,↓AA,Nat.reduceAdd,go_sem,QV h,AH8,ho]
  ·rw[if_neg ho,←this]
   simp(disch:=first|assumption|omega|(with_reducible rfl)|(simp only[go_sem];done)|(simp only[go_sem];omega)|fail) only[↓reduceIte,↓AA,Nat.reduceAdd,go_sem,QV h,AH8,ho]
theorem ADf (n:Int) (L:V) {es:List E0} (hl:es.length<1000000) (f:Fl):Cl 30 [.lst 45 f (es.map GK),ADc] [.agg 23 [.int .i64 n,L]]=some (.bool (es.any (Eb n)),[.agg 23 [.int .i64 n,L]]):=by
 have h:=fun f=>ADe n L es hl f es.length 0 (by omega)
 simp only[c0,List.drop_zero]at h
 have ix:∀f,Cl 43 [.lst 45 f (es.map GK),ADc] [.agg 23 [.int .i64 n,L]]=some (.int .i64 (Tm (Eb n) 0 es),[.agg 23 [.int .i64 n,L]]):=fun f=>by
  rw[←h f,AFK]
  simp(disch:=first|assumption|omega|(with_reducible rfl)|(simp only[go_sem];done)|(simp only[go_sem];omega)|fail) only[↓reduceIte,↓AA,Nat.reduceAdd,go_sem]
 rw[AFG,←ADd (Eb n) es 0]
 simp(disch:=first|assumption|omega|(with_reducible rfl)|(simp only[go_sem];done)|(simp only[go_sem];omega)|fail) only[↓reduceIte,↓AA,Nat.reduceAdd,go_sem,ix]
def ABo (n:Int) (e:E0) (h:Eb n e=false) (hn:n≤64):Ed.Edg:=⟨e.fr.toNat,e.to.toNat,e.w,by simp[Eb]at h;omega,by simp[Eb]at h;omega⟩
theorem ABp {n:Int} (hn:n≤64):∀es:List E0,es.any (Eb n)=false→∃l:List Ed.Edg,l.map Ed.vEdg=es.map GK∧l.map (fun x=>((x.fr:Int),(x.to:Int)))=es.map fun e=>(e.fr,e.to)
 |[],_=>⟨[],rfl,rfl⟩
 |e::es,h=>by
  rw[List.any_cons,Bool.or_eq_false_iff]at h
  obtain⟨l,h1,h2⟩:=ABp hn es h.2
  have hb:=h.1
  simp only[Eb,Bool.or_eq_false_iff,decide_eq_false_iff_not]at hb
  refine⟨ABo n e h.1 hn::l,?_,?_⟩
  ·rw[List.map_cons,List.map_cons,h1,Ed.vEdg,GK,ABo]
   simp only[]
   rw[show(e.fr.toNat:Int)=e.fr by omega,show(e.to.toNat:Int)=e.to by omega]
  ·rw[List.map_cons,List.map_cons,h2,ABo]
   simp only[]
   rw[show(e.fr.toNat:Int)=e.fr by omega,show(e.to.toNat:Int)=e.to by omega]
abbrev EI (f:Fl) (l:List Ed.Edg):V:= .lst 45 f (l.map Ed.vEdg)
def BU (l:List Ed.Edg):List Ed.Edg:=(Sort.sort Ed.ltE l.toArray).toList
theorem Jb (l:List Ed.Edg):(BU l).Perm l:=by
 have h:=(Sort.sort_sorts Ed.ltE Ed.ltM_swo l.toArray).1
 have h2:=h.2.2
 rw[Array.extract_eq_self_of_le (by rw[h.1];exact Nat.le_refl _),Array.extract_eq_self_of_le (Nat.le_refl _)]at h2
 exact h2
theorem F5 (l:List Ed.Edg):(BU l).length=l.length:=(Jb l).length_eq
theorem Yi (a:V) (f:Fl) (l:List Ed.Edg):Cl 27 [EI .sh l] [a]=some (.clo 42 [.ref 1 [] 22],[a,EI .sh l]):=by
 rw[Zz]
 simp(disch:=first|assumption|omega|(with_reducible rfl)|(simp only[go_sem];done)|(simp only[go_sem];omega)|fail) only[↓reduceIte,↓AA,Nat.reduceAdd,go_sem]
 rfl
theorem ABq (l:List Ed.Edg):(l.map Ed.vEdg).all i3=true:=by simp[Ed.vEdg,i3]
theorem WU (a:V) {l:List Ed.Edg} (hl:l.length≤1000000):Cl 40 [.clo 42 [.ref 1 [] 22]] [a,EI .sh l]=some (Ed.winM 2 l.length,[a,EI .sh l,Ed.rowM l.toArray]):=by
 rw[Z7]
 have ap:XQ 42 45 [.lst 45 .nil [],.clo 42 [.ref 1 [] 22]] [a,EI .sh l]=some (Ed.winM 2 l.length,[a,EI .sh l,Ed.rowM l.toArray]):=by
  simp only[XQ,List.getElem?_cons_succ,List.getElem?_cons_zero,ABq,List.length_map]
  rw[if_pos (by simp[FP,Nat.ble_eq];omega)]
  simp[Ed.winM,Ed.rowM]
 rw[ap];rfl
theorem WV (a:V) {l:List Ed.Edg} (hl:l.length≤1000000):Cl 26 [.clo 42 [.ref 1 [] 22],Ed.cm] [a,EI .sh l]=some (EI .sh (BU l),[a,EI .sh l]):=by
 have c:=WU a hl
 have s:=Ed.sortFunc_am (h0:=[a,EI .sh l,Ed.rowM l.toArray]) (id:=2) (N:=l.length) (by simp) (by omega) (d:=l.toArray) (by simp)
 have e0:Ed.HB [a,EI .sh l,Ed.rowM l.toArray] 2 l.toArray=[a,EI .sh l,Ed.rowM l.toArray]:=rfl
 have e1:Ed.HB [a,EI .sh l,Ed.rowM l.toArray] 2 (Sort.sort Ed.ltE l.toArray)=[a,EI .sh l,Ed.rowM (Sort.sort Ed.ltE l.toArray)]:=rfl
 rw[e0,e1]at s
 have ct:BB [a,EI .sh l,Ed.rowM (Sort.sort Ed.ltE l.toArray)] (Ed.winM 2 l.length)=some ((BU l).map Ed.vEdg):=by
  simp[BB,Ed.winM,rd,V.at,V.items,Ed.rowM,BU]
  rw[←F5 l];exact List.take_of_length_le (by simp[BU])
 have cl:AX ((BU l).map Ed.vEdg)=true:=Ky (Ef (fun _=>rfl) _)
 have nl:Ac ((BU l).map Ed.vEdg)=(BU l).map Ed.vEdg:=J3 (Ef (fun _=>rfl) _)
 have RF:AY 2 [a,EI .sh l,Ed.rowM (Sort.sort Ed.ltE l.toArray)] (Ed.winM 2 l.length)=some (EI .sh (BU l),[a,EI .sh l]):=by
  have u:(Ed.winM 2 l.length).unmut [a,EI .sh l,Ed.rowM (Sort.sort Ed.ltE l.toArray)]=EI .sh (BU l):=by
   rw[Ed.winM]at ct⊢
   simp only[V.unmut,ct,cl,nl,if_true]
  simp only[AY,u];rfl
 rw[Zy]
 refine(AB c _).trans ?_
 refine(AB s _).trans ?_
 exact RF
def Ul:Ed.Edg→List Ed.Edg→Bool
 |_,[]=>false
 |x,y::r=>decide (Ed.cmpE x y=0)||Ul y r
@[go_sem] theorem Xw (l:List Ed.Edg):Kw (l.map Ed.vEdg)=true:=Ef (fun _=>rfl) l
theorem Tn {l:List Ed.Edg} {i:Nat} (h:i<l.length):(l.map Ed.vEdg)[i]?=some (Ed.vEdg l[i]):=by simp[h]
theorem ADg (a b:V) {l:List Ed.Edg} (hl:l.length≤1000000):∀(n i:Nat) (hi:i<l.length),i+1+n=l.length→
 NK (EI .sh l) (.int .i64 ((i+1:Nat):Int)) [a,b]=some (.int .i64 (if Ul l[i] (l.drop (i+1))=true then 51 else 0),[]):=by
 intro n
 induction n with
 |zero=>
  intro i hi hn
  rw[List.drop_eq_nil_of_le (by omega),Ul,KZ]
  simp(disch:=first|assumption|omega|(with_reducible rfl)|(simp only[go_sem];done)|(simp only[go_sem];omega)|fail) only[↓reduceIte,↓AA,Nat.reduceAdd,go_sem]
  rfl
 |succ n ih=>
  intro i hi hn
  have h:i+1<l.length:=by omega
  have:=ih (i+1) h (by omega)
  rw[List.drop_eq_getElem_cons h,Ul,KZ]
  by_cases hc:Ed.cmpE l[i] l[i+1]=0
  ·rw[decide_eq_true hc,Bool.true_or,if_pos rfl]
   simp(disch:=first|assumption|omega|(with_reducible rfl)|(simp only[go_sem];done)|(simp only[go_sem];omega)|fail) only[↓reduceIte,↓AA,Nat.reduceAdd,go_sem,Tn hi,Tn h,Ed.compare_am,hc,Nat.add_sub_cancel]
  ·rw[decide_eq_false hc,Bool.false_or,←this]
   simp(disch:=first|assumption|omega|(with_reducible rfl)|(simp only[go_sem];done)|(simp only[go_sem];omega)|fail) only[↓reduceIte,↓AA,Nat.reduceAdd,go_sem,Tn hi,Tn h,Ed.compare_am,Nat.add_sub_cancel]
def JA (x:Ed.Edg):Int×Int:=((x.fr:Int),(x.to:Int))
theorem ADh (x y:Ed.Edg):Ed.cmpE x y=0↔JA x=JA y:=by
 rw[Ed.cmpE,JA,JA,Prod.mk.injEq]
 by_cases h:x.fr=y.fr
 ·rw[if_pos h];omega
 ·rw[if_neg h];omega
theorem L6 {x y:Ed.Edg} (h:Ed.ltE y x=false) (hn:JA x≠JA y):Ed.ltE x y=true:=by
 rw[Ed.ltE_iff']at h
 rw[Ed.ltE_iff]
 simp only[JA,ne_eq,Prod.mk.injEq]at hn
 omega
theorem Xx:∀(r:List Ed.Edg) (x:Ed.Edg),(x::r).Pairwise (fun a b=>Ed.ltE b a=false)→(Ul x r=false↔((x::r).map JA).Nodup)
 |[],x,_=>by simp[Ul]
 |y::r,x,h=>by
  obtain⟨h1,h2⟩:=List.pairwise_cons.1 h
  have ih:=Xx r y h2
  rw[Ul,Bool.or_eq_false_iff,ih,decide_eq_false_iff_not,ADh,List.map_cons (l:=y::r),List.nodup_cons]
  refine and_congr_left fun hd=>⟨fun hn hm=> ?_,fun hm he=>hm (by rw[he];simp)⟩
  obtain⟨z,hz,he⟩:=List.mem_map.1 hm
  rcases List.mem_cons.1 hz with rfl|hz
  ·exact hn he.symm
  ·have a:=L6 (h1 y List.mem_cons_self) hn
   have b:=(List.pairwise_cons.1 h2).1 z hz
   rw[Ed.ltE_iff]at a
   rw[Ed.ltE_iff']at b
   simp only[JA,Prod.mk.injEq]at he
   omega
theorem J6 (l:List Ed.Edg):(BU l).Pairwise (fun a b=>Ed.ltE b a=false):=by
 have h:=(Sort.sort_sorts Ed.ltE Ed.ltM_swo l.toArray).2
 rw[List.pairwise_iff_getElem]
 intro i j hi hj hij
 have:=h i j (Nat.zero_le _) hij (by simpa [BU]using(F5 l)▸hj)
 simp only[BU,Array.length_toList]at hi hj
 simpa [BU,hi,hj]using this
def EJ (g:Grf):Int:=if 1≤g.n∧g.n≤64∧g.es.length≤512∧g.es.any (Eb g.n)=false then(if(g.es.map fun e=>(e.fr,e.to)).Nodup then 0 else 51)else 50
theorem Yj {g:Grf} (hl:g.es.length<1000000):Cl 14 [vG .sh g] []=some (.int .i64 (EJ g),[]):=by
 have an:=ADf g.n (.lst 45 .sh (g.es.map GK)) hl .sh
 by_cases h1:g.n<1
 ·rw[EJ,if_neg (by omega),NM]
  simp(disch:=first|assumption|omega|(with_reducible rfl)|(simp only[go_sem];done)|(simp only[go_sem];omega)|fail) only[↓reduceIte,↓AA,Nat.reduceAdd,go_sem]
 by_cases h2:64<g.n
 ·rw[EJ,if_neg (by omega),NM]
  simp(disch:=first|assumption|omega|(with_reducible rfl)|(simp only[go_sem];done)|(simp only[go_sem];omega)|fail) only[↓reduceIte,↓AA,Nat.reduceAdd,go_sem]
 by_cases h3:512<g.es.length
 ·rw[EJ,if_neg (by omega),NM]
  simp(disch:=first|assumption|omega|(with_reducible rfl)|(simp only[go_sem];done)|(simp only[go_sem];omega)|fail) only[↓reduceIte,↓AA,Nat.reduceAdd,go_sem]
 by_cases h4:g.es.any (Eb g.n)=true
 ·rw[EJ,if_neg (by rw[h4];simp),NM]
  simp(disch:=first|assumption|omega|(with_reducible rfl)|(simp only[go_sem];done)|(simp only[go_sem];omega)|fail) only[↓reduceIte,↓AA,Nat.reduceAdd,go_sem,an,h4]
 have h4:g.es.any (Eb g.n)=false:=by simpa using h4
 obtain⟨l,l1,l2⟩:=ABp (by omega) g.es h4
 have hlen:l.length=g.es.length:=by have:=congrArg List.length l1;simpa using this
 have v:=Yi (vG .sh g) .sh l
 have st:=WV (vG .sh g) (l:=l) (by omega)
 have hsl:=F5 l
 have hnd:(g.es.map fun e=>(e.fr,e.to)).Nodup↔((BU l).map JA).Nodup:=by
  rw[←l2];exact(((Jb l).map JA).nodup_iff).symm
 have so:=J6 l
 rw[EJ,if_pos ⟨by omega,by omega,by omega,h4⟩]
 have e:(if(g.es.map fun e=>(e.fr,e.to)).Nodup then(0:Int)else 51)=(if((BU l).map JA).Nodup then(0:Int)else 51):=by
  by_cases hh:(g.es.map fun e=>(e.fr,e.to)).Nodup
  ·rw[if_pos hh,if_pos (hnd.1 hh)]
  ·rw[if_neg hh,if_neg (fun k=>hh (hnd.2 k))]
 rw[e]
 have rest:NK (EI .sh (BU l)) (.int .i64 1) [vG .sh g,EI .sh l]=some (.int .i64 (if((BU l).map JA).Nodup then(0:Int)else 51),[]):=by
  cases hs:BU l with
  |nil=>
   rw[KZ]
   simp(disch:=first|assumption|omega|(with_reducible rfl)|(simp only[go_sem];done)|(simp only[go_sem];omega)|fail) only[↓reduceIte,↓AA,Nat.reduceAdd,go_sem]
   rfl
  |cons x r=>
   have:=ADg (vG .sh g) (EI .sh l) (l:=x::r) (by rw[←hs];omega) r.length 0 (by simp) (by simp;omega)
   simp only[Nat.zero_add,c1,List.getElem_cons_zero,List.drop_succ_cons,List.drop_zero]at this
   rw[this]
   rw[hs]at so
   have ai:=Xx r x so
   by_cases hh:((x::r).map JA).Nodup
   ·rw[if_pos hh,if_neg (by rw[ai.2 hh];simp)]
   ·rw[if_neg hh,if_pos (by cases ha:Ul x r with
     |true=>rfl
     |false=>exact absurd (ai.1 ha) hh)]
 have l3:l.length≤512:=by omega
 simp only[vG,←l1]at an v st rest⊢
 rw[NM]
 generalize BU l=s at*
 simp(disch:=first|assumption|omega|(with_reducible rfl)|(simp only[go_sem];done)|(simp only[go_sem];omega)|fail) only[↓reduceIte,↓AA,Nat.reduceAdd,go_sem,an,h4,v,st,rest]
end
section
open Go AM
abbrev kEd (e:E0):Int×Int:=(e.fr,e.to)
def WW (a b:E0):Prop:=a.fr<b.fr∨a.fr=b.fr∧a.to<b.to
def InB (e:E0):Prop:=0≤e.fr∧e.fr<64∧0≤e.to∧e.to<64
def toE (e:E0):Ed.Edg:=⟨e.fr.toNat%64,e.to.toNat%64,e.w,Nat.mod_lt _ (by omega),Nat.mod_lt _ (by omega)⟩
def ofE (x:Ed.Edg):E0:=⟨(x.fr:Int),(x.to:Int),x.w⟩
theorem AGA {e:E0} (h:InB e):ofE (toE e)=e:=by
 obtain⟨a,b,c⟩:=e
 simp only[InB]at h
 simp only[ofE,toE,E0.mk.injEq,and_true]
 omega
theorem Xy {es:List E0} (h:∀e∈es,InB e):(es.map toE).map ofE=es:=by
 rw[List.map_map]
 conv=>rhs;rw[←List.map_id es]
 exact List.map_congr_left fun e he=>AGA (h e he)
theorem AH9 {es:List E0} (h:∀e∈es,InB e):(es.map toE).map Ed.vEdg=es.map GK:=by
 conv=>rhs;rw[←Xy h]
 rw[List.map_map,List.map_map,List.map_map];rfl
def LK (es:List E0):List E0:=(BU (es.map toE)).map ofE
theorem AGB (es:List E0):(LK es).map GK=(BU (es.map toE)).map Ed.vEdg:=by
 rw[LK,List.map_map];rfl
theorem QW {es:List E0} (h:∀e∈es,InB e):(LK es).Perm es:=by
 have:=(Jb (es.map toE)).map ofE
 rwa [Xy h]at this
theorem ABr (es:List E0):(LK es).length=es.length:=by simp[LK,F5]
theorem Um {es:List E0} (h:∀e∈es,InB e) (hn:(es.map kEd).Nodup):(LK es).Pairwise WW:=by
 have hp:=QW h
 have h1:=J6 (es.map toE)
 have h2:((LK es).map kEd).Nodup:=((hp.map kEd).nodup_iff).2 hn
 rw[LK,List.map_map,List.nodup_iff_pairwise_ne,List.pairwise_map]at h2
 rw[LK,List.pairwise_map]
 refine(h1.and h2).imp fun{a b} hab=> ?_
 have hk:JA a≠JA b:=hab.2
 have:=L6 hab.1 hk
 rw[Ed.ltE_iff]at this
 simp only[WW,ofE]
 omega
theorem Xz (a:E0):¬WW a a:=by simp only[WW];omega
theorem Yk {a b:E0} (h:WW a b):¬WW b a:=by simp only[WW]at*;omega
theorem AEp:∀{l1 l2:List E0},l1.Pairwise WW→l2.Pairwise WW→(∀x,x∈l1↔x∈l2)→l1=l2
 |[],[],_,_,_=>rfl
 |[],y::l2,_,_,h=>by have:=(h y).2 List.mem_cons_self;simp at this
 |x::l1,[],_,_,h=>by have:=(h x).1 List.mem_cons_self;simp at this
 |x::l1,y::l2,h1,h2,h=>by
  obtain⟨a1,a2⟩:=List.pairwise_cons.1 h1
  obtain⟨b1,b2⟩:=List.pairwise_cons.1 h2
  have e:x=y:=by
   rcases List.mem_cons.1 ((h x).1 List.mem_cons_self)with r|r
   ·exact r
   rcases List.mem_cons.1 ((h y).2 List.mem_cons_self)with q|q
   ·exact q.symm
   exact absurd (b1 x r) (Yk (a1 y q))
  subst e
  refine congrArg (x::·) (AEp a2 b2 fun z=>⟨fun hz=> ?_,fun hz=> ?_⟩)
  ·rcases List.mem_cons.1 ((h z).1 (List.mem_cons_of_mem _ hz))with rfl|r
   ·exact absurd (a1 z hz) (Xz z)
   ·exact r
  ·rcases List.mem_cons.1 ((h z).2 (List.mem_cons_of_mem _ hz))with rfl|r
   ·exact absurd (b1 z hz) (Xz z)
   ·exact r
theorem Tq {g:Grf} (h:EJ g=0):(1≤g.n∧g.n≤64)∧g.es.length≤512∧g.es.any (Eb g.n)=false∧(g.es.map kEd).Nodup:=by
 rw[EJ]at h
 split at h
 ·rename_i hc
  split at h
  ·rename_i hn;exact⟨⟨hc.1,hc.2.1⟩,hc.2.2.1,hc.2.2.2,hn⟩
  ·cases h
 ·cases h
theorem AGC {n:Int} {e:E0} (h:Eb n e=false):0≤e.fr∧e.fr<n∧0≤e.to∧e.to<n∧0≤e.w∧e.w≤1048576:=by
 simp only[Eb,Bool.or_eq_false_iff,decide_eq_false_iff_not]at h;omega
theorem X0 {n:Int} {es:List E0} (h:es.any (Eb n)=false):∀e∈es,0≤e.fr∧e.fr<n∧0≤e.to∧e.to<n∧0≤e.w∧e.w≤1048576:=by
 intro e he
 rw[List.any_eq_false]at h
 exact AGC (by simpa using h e he)
theorem WX {g:Grf} (h:EJ g=0):∀e∈g.es,InB e:=by
 obtain⟨⟨_,h1⟩,_,h2,_⟩:=Tq h
 intro e he
 have:=X0 h2 e he
 simp only[InB];omega
theorem AGD {g:Grf} (h:EJ g=0):(LK g.es).Perm g.es∧(LK g.es).Pairwise WW:=⟨QW (WX h),Um (WX h) (Tq h).2.2.2⟩
def Gu (g:Grf):Grf:=if EJ g=0 then⟨g.n,LK g.es⟩else⟨0,[]⟩
end
section
open Go AM
theorem Un {f:FuncId} {id:Nat} {p:List Nat} {t:TypeId} {cs vs h h':List V} {v r:V} (he:Df.ext f=false) (hp:Df.pure f=false) (hh:h[id]?=some v) (haw:DK id (h.set id void)=true)
 (hx:V.away id (.clo f cs)=true) (hv:DK id vs=true) (hr:r.away id=true) (ha2:DK id h'=true) (hlt:id<h'.length) (e:Cl f (Ac (vs++cs)) (h.set id void)=some (r,h')) (k:V→List V→Rv) (hs:(Df.seq f).1=0:=by kernel_rfl):
 DL P Df W (some (.ref id p t)) (.clo f cs) vs h k=k r (h'.set id v):=by
 simp only[DL,hh,haw,hv,hx]
 rw[if_pos (show(true&&true&&true)=true from rfl),Uc _ he hp hs]
 refine(AB e _).trans ?_
 rw[if_pos (by rw[hr,ha2];simp only[Bool.true_and];exact Nat.ble_eq_true_of_le hlt)]
theorem WY (a b:V) (l:List Ed.Edg):Cl 27 [EI .sh l] [a,b]=some (.clo 42 [.ref 2 [] 22],[a,b,EI .sh l]):=by
 rw[Zz]
 simp(disch:=first|assumption|omega|(with_reducible rfl)|(simp only[go_sem];done)|(simp only[go_sem];omega)|fail) only[↓reduceIte,↓AA,Nat.reduceAdd,go_sem]
 rfl
theorem Uo (a b:V) {l:List Ed.Edg} (hl:l.length≤1000000):Cl 40 [.clo 42 [.ref 2 [] 22]] [a,b,EI .sh l]=some (Ed.winM 3 l.length,[a,b,EI .sh l,Ed.rowM l.toArray]):=by
 rw[Z7]
 have ap:XQ 42 45 [.lst 45 .nil [],.clo 42 [.ref 2 [] 22]] [a,b,EI .sh l]=some (Ed.winM 3 l.length,[a,b,EI .sh l,Ed.rowM l.toArray]):=by
  simp only[XQ,List.getElem?_cons_succ,List.getElem?_cons_zero,ABq,List.length_map]
  rw[if_pos (by simp[FP,Nat.ble_eq];omega)]
  simp[Ed.winM,Ed.rowM]
 rw[ap];rfl
theorem Ur (a b:V) {l:List Ed.Edg} (hl:l.length≤1000000):Cl 26 [.clo 42 [.ref 2 [] 22],Ed.cm] [a,b,EI .sh l]=some (EI .sh (BU l),[a,b,EI .sh l]):=by
 have c:=Uo a b hl
 have s:=Ed.sortFunc_am (h0:=[a,b,EI .sh l,Ed.rowM l.toArray]) (id:=3) (N:=l.length) (by simp) (by omega) (d:=l.toArray) (by simp)
 have e0:Ed.HB [a,b,EI .sh l,Ed.rowM l.toArray] 3 l.toArray=[a,b,EI .sh l,Ed.rowM l.toArray]:=rfl
 have e1:Ed.HB [a,b,EI .sh l,Ed.rowM l.toArray] 3 (Sort.sort Ed.ltE l.toArray)=[a,b,EI .sh l,Ed.rowM (Sort.sort Ed.ltE l.toArray)]:=rfl
 rw[e0,e1]at s
 have ct:BB [a,b,EI .sh l,Ed.rowM (Sort.sort Ed.ltE l.toArray)] (Ed.winM 3 l.length)=some ((BU l).map Ed.vEdg):=by
  simp[BB,Ed.winM,rd,V.at,V.items,Ed.rowM,BU]
  rw[←F5 l];exact List.take_of_length_le (by simp[BU])
 have cl:AX ((BU l).map Ed.vEdg)=true:=Ky (Ef (fun _=>rfl) _)
 have nl:Ac ((BU l).map Ed.vEdg)=(BU l).map Ed.vEdg:=J3 (Ef (fun _=>rfl) _)
 have RF:AY 3 [a,b,EI .sh l,Ed.rowM (Sort.sort Ed.ltE l.toArray)] (Ed.winM 3 l.length)=some (EI .sh (BU l),[a,b,EI .sh l]):=by
  have u:(Ed.winM 3 l.length).unmut [a,b,EI .sh l,Ed.rowM (Sort.sort Ed.ltE l.toArray)]=EI .sh (BU l):=by
   rw[Ed.winM]at ct⊢
   simp only[V.unmut,ct,cl,nl,if_true]
  simp only[AY,u];rfl
 rw[Zy]
 refine(AB c _).trans ?_
 refine(AB s _).trans ?_
 exact RF
abbrev zG:V:= .agg 23 [.int .i64 0,.lst 45 .nil []]
theorem ADj {g:Grf} (hl:g.es.length<1000000):Cl 12 [vG .sh g] []=some (.tup [vG .sh (Gu g),.int .i64 (EJ g)],[]):=by
 have ck:=Yj hl
 by_cases hc:EJ g=0
 ·have hin:=WX hc
  have hv:=AH9 hin
  have hsv:=AGB g.es
  rw[hc]at ck⊢
  rw[Gu,if_pos hc]
  simp only[vG,hsv,←hv]at ck⊢
  have hlt:(g.es.map toE).length≤1000000:=by simp;omega
  generalize g.es.map toE=l at*
  have c1:∀(x:V) (k:V→List V→Rv),x.away 0=true→DL P Df W (some (.ref 0 [] 24)) (.clo 27 []) [EI .sh l] [x,zG] k=k (.clo 42 [.ref 2 [] 22]) [x,zG,EI .sh l]:=by
   intro x k hx
   exact Un (h:=[x,zG]) (h':=[void,zG,EI .sh l]) (r:= .clo 42 [.ref 2 [] 22]) (id:=0) (by kernel_rfl) (by kernel_rfl) (v:=x) rfl rfl rfl rfl rfl rfl (Nat.zero_lt_succ _) (by rw[List.append_nil,J3 (show Kw [EI .sh l]=true by simp only[Kw,V.pl,Xw];rfl)];exact WY void zG l) k
  have c2:∀(x:V) (k:V→List V→Rv),x.away 0=true→DL P Df W (some (.ref 0 [] 24)) (.clo 26 []) [.clo 42 [.ref 2 [] 22],Ed.cm] [x,zG,EI .sh l] k=k (EI .sh (BU l)) [x,zG,EI .sh l]:=by
   intro x k hx
   exact Un (h:=[x,zG,EI .sh l]) (h':=[void,zG,EI .sh l]) (r:=EI .sh (BU l)) (id:=0) (by kernel_rfl) (by kernel_rfl) (v:=x) rfl rfl rfl rfl ((V.PF _ (show(EI .sh (BU l)).pl=true by simp only[V.pl,Xw])).away 0) rfl (Nat.zero_lt_succ _) (Ur void zG hlt) k
  generalize BU l=s at*
  rw[Zx]
  have sb:Gt (.ref 0 [] 24) (.ref 0 [0] 3)=true:=rfl
  (repeat' with_reducible first|refine(Af _ _).trans ?_|refine(Aa _ _).trans ?_|refine(AA _ _).trans ?_|refine(AB (by first|rfl|(simp(disch:=first|assumption|omega|(with_reducible rfl)|(simp only[go_sem];done)|(simp only[go_sem];omega)|fail) only[↓reduceIte,↓AA,Nat.reduceAdd,go_sem,Bool.not_true,Bool.not_false,ck,sb];rfl)) _).trans ?_|refine(if_pos (by first|rfl|(simp(disch:=first|assumption|omega|(with_reducible rfl)|(simp only[go_sem];done)|(simp only[go_sem];omega)|fail) only[↓reduceIte,↓AA,Nat.reduceAdd,go_sem,Bool.not_true,Bool.not_false,ck,sb];done))).trans ?_|refine(AQ (by first|assumption|omega|(simp(disch:=first|assumption|omega|(with_reducible rfl)|(simp only[go_sem];done)|(simp only[go_sem];omega)|fail) only[↓reduceIte,↓AA,Nat.reduceAdd,go_sem,Bool.not_true,Bool.not_false,ck,sb];done)|(simp(disch:=first|assumption|omega|(with_reducible rfl)|(simp only[go_sem];done)|(simp only[go_sem];omega)|fail) only[↓reduceIte,↓AA,Nat.reduceAdd,go_sem,Bool.not_true,Bool.not_false,ck,sb];omega)) _ _).trans ?_|refine(AO (by first|assumption|omega|(simp(disch:=first|assumption|omega|(with_reducible rfl)|(simp only[go_sem];done)|(simp only[go_sem];omega)|fail) only[↓reduceIte,↓AA,Nat.reduceAdd,go_sem,Bool.not_true,Bool.not_false,ck,sb];done)|(simp(disch:=first|assumption|omega|(with_reducible rfl)|(simp only[go_sem];done)|(simp only[go_sem];omega)|fail) only[↓reduceIte,↓AA,Nat.reduceAdd,go_sem,Bool.not_true,Bool.not_false,ck,sb];omega)) _ _).trans ?_|fail)
  refine(c1 _ _ rfl).trans ?_
  refine(c2 _ _ rfl).trans ?_
  (repeat' with_reducible first|refine(Af _ _).trans ?_|refine(Aa _ _).trans ?_|refine(AA _ _).trans ?_|refine(AB (by first|rfl|(simp(disch:=first|assumption|omega|(with_reducible rfl)|(simp only[go_sem];done)|(simp only[go_sem];omega)|fail) only[↓reduceIte,↓AA,Nat.reduceAdd,go_sem,Bool.not_true,Bool.not_false,ck];rfl)) _).trans ?_|refine(if_pos (by first|rfl|(simp(disch:=first|assumption|omega|(with_reducible rfl)|(simp only[go_sem];done)|(simp only[go_sem];omega)|fail) only[↓reduceIte,↓AA,Nat.reduceAdd,go_sem,Bool.not_true,Bool.not_false,ck];done))).trans ?_|refine(AQ (by first|assumption|omega|(simp(disch:=first|assumption|omega|(with_reducible rfl)|(simp only[go_sem];done)|(simp only[go_sem];omega)|fail) only[↓reduceIte,↓AA,Nat.reduceAdd,go_sem,Bool.not_true,Bool.not_false,ck];done)|(simp(disch:=first|assumption|omega|(with_reducible rfl)|(simp only[go_sem];done)|(simp only[go_sem];omega)|fail) only[↓reduceIte,↓AA,Nat.reduceAdd,go_sem,Bool.not_true,Bool.not_false,ck];omega)) _ _).trans ?_|refine(AO (by first|assumption|omega|(simp(disch:=first|assumption|omega|(with_reducible rfl)|(simp only[go_sem];done)|(simp only[go_sem];omega)|fail) only[↓reduceIte,↓AA,Nat.reduceAdd,go_sem,Bool.not_true,Bool.not_false,ck];done)|(simp(disch:=first|assumption|omega|(with_reducible rfl)|(simp only[go_sem];done)|(simp only[go_sem];omega)|fail) only[↓reduceIte,↓AA,Nat.reduceAdd,go_sem,Bool.not_true,Bool.not_false,ck];omega)) _ _).trans ?_|fail)
  rfl
 ·rw[Gu,if_neg hc,Zx]
  generalize EJ g=e at*
  (repeat' with_reducible first|refine(Af _ _).trans ?_|refine(Aa _ _).trans ?_|refine(AA _ _).trans ?_|refine(AB (by first|rfl|(simp(disch:=first|assumption|omega|(with_reducible rfl)|(simp only[go_sem];done)|(simp only[go_sem];omega)|fail) only[↓reduceIte,↓AA,Nat.reduceAdd,go_sem,Bool.not_true,Bool.not_false,ck];rfl)) _).trans ?_|refine(if_pos (by first|rfl|(simp(disch:=first|assumption|omega|(with_reducible rfl)|(simp only[go_sem];done)|(simp only[go_sem];omega)|fail) only[↓reduceIte,↓AA,Nat.reduceAdd,go_sem,Bool.not_true,Bool.not_false,ck];done))).trans ?_|refine(AQ (by first|assumption|omega|(simp(disch:=first|assumption|omega|(with_reducible rfl)|(simp only[go_sem];done)|(simp only[go_sem];omega)|fail) only[↓reduceIte,↓AA,Nat.reduceAdd,go_sem,Bool.not_true,Bool.not_false,ck];done)|(simp(disch:=first|assumption|omega|(with_reducible rfl)|(simp only[go_sem];done)|(simp only[go_sem];omega)|fail) only[↓reduceIte,↓AA,Nat.reduceAdd,go_sem,Bool.not_true,Bool.not_false,ck];omega)) _ _).trans ?_|refine(AO (by first|assumption|omega|(simp(disch:=first|assumption|omega|(with_reducible rfl)|(simp only[go_sem];done)|(simp only[go_sem];omega)|fail) only[↓reduceIte,↓AA,Nat.reduceAdd,go_sem,Bool.not_true,Bool.not_false,ck];done)|(simp(disch:=first|assumption|omega|(with_reducible rfl)|(simp only[go_sem];done)|(simp only[go_sem];omega)|fail) only[↓reduceIte,↓AA,Nat.reduceAdd,go_sem,Bool.not_true,Bool.not_false,ck];omega)) _ _).trans ?_|fail)
  rfl
end
section
open Go AM
def PL (c:UInt8):Prop:=48≤c.toNat∧c.toNat≤57
def decB (n:Nat):List UInt8:=Ez 20 n
theorem Jc {k:Nat} (h:k<10):(UInt8.ofNat (48+k)).toNat=48+k:=by simp;omega
theorem Nv {k:Nat} (h:k<10):PL (UInt8.ofNat (48+k)):=by unfold PL;rw[Jc h];omega
theorem Nw:∀f n,(Ez f n).length≤f
 |0,_=>by simp[Ez]
 |f+1,n=>by
  rw[Ez]
  split
  ·simp
  ·have:=Nw f (n/10)
   simp only[List.length_append,List.length_cons,List.length_nil];omega
theorem ADk:∀f n,0<f→Ez f n≠[]
 |f+1,n,_=>by rw[Ez];split<;>simp
theorem Us:∀f n,∀c∈Ez f n,PL c
 |0,_,c,h=>by simp[Ez]at h
 |f+1,n,c,h=>by
  rw[Ez]at h
  split at h
  ·rw[List.mem_singleton.1 h];exact Nv (by assumption)
  ·rcases List.mem_append.1 h with h|h
   ·exact Us f _ c h
   ·rw[List.mem_singleton.1 h];exact Nv (Nat.mod_lt _ (by omega))
theorem X3:∀f k n,n<10^(k+1)→(Ez f n).length≤k+1
 |0,k,n,_=>by simp[Ez]
 |f+1,k,n,h=>by
  rw[Ez]
  split
  ·simp
  ·match k,h with
   |0,h=>omega
   |k+1,h=>
    have:=X3 f k (n/10) (by rw[Nat.pow_succ]at h;omega)
    simp only[List.length_append,List.length_cons,List.length_nil];omega
theorem ABs (f n:Nat):Ez (f+1) n=if n<10 then[UInt8.ofNat (48+n)]else Ez f (n/10)++[UInt8.ofNat (48+n%10)]:=rfl
theorem QX:∀f n,n<10^(f+1)→Ez (f+2) n=Ez (f+1) n
 |f,n,h=>by
  rw[ABs (f+1) n,ABs f n]
  by_cases h1:n<10
  ·rw[if_pos h1,if_pos h1]
  ·rw[if_neg h1,if_neg h1]
   match f,h with
   |0,h=>omega
   |f+1,h=>rw[QX f (n/10) (by rw[Nat.pow_succ]at h;omega)]
theorem Tt (n:Nat):decB n≠[]:=ADk 20 n (by omega)
theorem Ny (n:Nat):∀c∈decB n,PL c:=Us 20 n
theorem ABt {n:Nat} (h:n<1000000000):(decB n).length≤9:=X3 20 8 n h
theorem Ho {n:Nat} (h:n<10):decB n=[UInt8.ofNat (48+n)]:=by rw[decB,Ez,if_pos h]
theorem Ik {n:Nat} (h:¬n<10) (h2:n<1000000000000000000):decB n=decB (n/10)++[UInt8.ofNat (48+n%10)]:=by
 rw[decB,decB,Ez,if_neg h,QX 18 (n/10) (by omega)]
attribute [irreducible] decB
theorem ABu (n:Nat):Du (n:Int)=decB n:=by
 unfold Du decB
 rw[if_neg (by omega),Int.toNat_natCast]
theorem Ut (n:Int):(Du n).length≤21:=by
 unfold Du
 have h1:=Nw 20 n.natAbs
 have h2:=Nw 20 n.toNat
 split
 ·rw[List.length_cons];omega
 ·omega
theorem QY:∀(l:List UInt8) (a:Nat) (c:UInt8) (v:Nat),Lib.parseUint10 a l= .ok v→Lib.parseUint10 a (l++[c])=Lib.parseUint10 v [c]
 |[],a,c,v,h=>by simp only[Lib.parseUint10]at h;cases h;rfl
 |x::l,a,c,v,h=>by
  rw[Lib.parseUint10]at h
  rw[List.cons_append,Lib.parseUint10]
  split at h
  ·rename_i h1
   rw[if_pos h1]
   split at h
   ·cases h
   ·rename_i h2
    rw[if_neg h2]
    split at h
    ·cases h
    ·rename_i h3
     rw[if_neg h3]
     exact QY l _ c v h
  ·cases h
theorem Tv {v:Nat} {c:UInt8} (hc:PL c) (hv:v<1000000000000000):Lib.parseUint10 v [c]= .ok (v*10+(c.toNat-48)):=by
 obtain⟨h1,h2⟩:=hc
 rw[Lib.parseUint10,if_pos ⟨h1,h2⟩,if_neg (by omega),if_neg (by omega),Lib.parseUint10]
theorem QZ:∀(k n:Nat),n<10^k→n<1000000000000000→Lib.parseUint10 0 (decB n)= .ok n
 |0,n,h,h2=>by
  have h0:n=0:=by simp at h;exact h
  subst h0
  rw[Ho (by omega),Tv (Nv (by omega)) (by omega),Jc (by omega)]
 |k+1,n,h,h2=>by
  by_cases h1:n<10
  ·rw[Ho h1,Tv (Nv h1) (by omega),Jc h1];congr 1;omega
  ·have ih:=QZ k (n/10) (by rw[Nat.pow_succ]at h;omega) (by omega)
   have hm:n%10<10:=Nat.mod_lt _ (by omega)
   rw[Ik h1 (by omega),QY _ _ _ _ ih,Tv (Nv hm) (by omega),Jc hm];congr 1;omega
theorem ABv {n:Nat} (h:n<1000000000):Lib.atoiAll (decB n)= .ok (n:Int):=by
 have hp:=QZ 9 n h (by omega)
 have hd:=Ny n
 have hn:=Tt n
 generalize decB n=l at*
 match l,hn with
 |c::r,_=>
  have hc:=hd c List.mem_cons_self
  unfold PL at hc
  have e1:¬c.toNat=43:=by omega
  have e2:¬c.toNat=45:=by omega
  have e3:¬9223372036854775808≤n:=by omega
  simp[Lib.atoiAll,Lib.parseMag,hp,e1,e2,e3]
theorem Uu:∀(l:List UInt8) (a u:Nat),Lib.parseUint10 a l= .ok u→u<(a+1)*10^l.length
 |[],a,u,h=>by simp only[Lib.parseUint10]at h;cases h;simp
 |c::l,a,u,h=>by
  rw[Lib.parseUint10]at h
  split at h
  ·rename_i hc
   split at h
   ·cases h
   ·split at h
    ·cases h
    ·have:=Uu l _ u h
     have h2:(a*10+(c.toNat-48)+1)*10^l.length≤((a+1)*10)*10^l.length:=Nat.mul_le_mul_right _ (by omega)
     rw[List.length_cons,Nat.pow_succ,Nat.mul_comm (10^l.length) 10,←Nat.mul_assoc]
     omega
  ·cases h
theorem AGE {l:List UInt8} {u:Nat} (hl:l.length≤9) (h:Lib.parseMag l= .ok u):u<1000000000:=by
 unfold Lib.parseMag at h
 split at h
 ·cases h
 ·have h1:=Uu l 0 u h
  have h2:10^l.length≤10^9:=Nat.pow_le_pow_right (by omega) hl
  omega
theorem ADl {s:List UInt8} (hl:s.length≤9) {v:Int} (h:Lib.atoiAll s= .ok v): -1000000000<v∧v<1000000000:=by
 unfold Lib.atoiAll at h
 split at h
 ·cases h
 ·rename_i c r
  dsimp only at h
  have hm:∀u,Lib.parseMag (if c.toNat=43∨c.toNat=45 then r else c::r)= .ok u→u<1000000000:=fun u hu=>AGE (by
   rw[List.length_cons]at hl
   split
   ·omega
   ·rw[List.length_cons];omega) hu
  generalize Lib.parseMag (if c.toNat=43∨c.toNat=45 then r else c::r)=q at*
  split at h
  ·cases h
  ·cases h
  ·rename_i u
   have:=hm u rfl
   split at h
   ·cases h
   ·split at h
    ·cases h
    ·cases h
     split<;>omega
theorem Uw (s:List UInt8):(∃v,Lib.atoiAll s= .ok v∧Lm s= .tup [.int .i64 v,.nili])∨∃n,Lm s= .tup [.int .i64 n,.ifv]:=by
 unfold Lm
 cases Lib.atoiAll s with
 |ok v=>exact .inl ⟨v,rfl,rfl⟩
 |«syntax»=>exact .inr ⟨_,rfl⟩
 |range=>exact .inr ⟨_,rfl⟩
theorem ABw {s:List UInt8} (hs:s.length≤1000000) (h:List V):XQ 1 0 [.str s] h=some (Lm s,h):=by
 simp only[XQ]
 rw[if_pos (by simp[FP,Nat.ble_eq];omega)]
theorem ABx {n:Int} (h0: -1000000000000000000≤n) (h1:n≤1000000000000000000) (h:List V):XQ 2 0 [.int .i64 n] h=some (.str (Du n),h):=by
 simp only[XQ]
 rw[if_pos (by simp;omega)]
def DY (a:Nat) (l:List UInt8):Nat:=l.foldl (fun a c=>a*10+(c.toNat-48)) a
theorem Yl (a:Nat) (c:UInt8) (l:List UInt8):DY a (c::l)=DY (a*10+(c.toNat-48)) l:=by simp only[DY,List.foldl_cons]
theorem Nz (l:List UInt8) (a:Nat) (c:UInt8):DY a (l++[c])=DY a l*10+(c.toNat-48):=by
 simp only[DY,List.foldl_append,List.foldl_cons,List.foldl_nil]
theorem Me:∀(l:List UInt8) (a:Nat),(∀c∈l,PL c)→DY a l<(a+1)*10^l.length
 |[],a,_=>by simp[DY]
 |c::l,a,h=>by
  obtain⟨h1,h2⟩:=h c List.mem_cons_self
  have:=Me l (a*10+(c.toNat-48)) (fun x hx=>h x (List.mem_cons_of_mem _ hx))
  have h3:(a*10+(c.toNat-48)+1)*10^l.length≤((a+1)*10)*10^l.length:=Nat.mul_le_mul_right _ (by omega)
  rw[Yl,List.length_cons,Nat.pow_succ,Nat.mul_comm (10^l.length) 10,←Nat.mul_assoc]
  omega
theorem Qa {c:UInt8} (h:PL c):UInt8.ofNat (48+(c.toNat-48))=c:=by
 obtain⟨h1,h2⟩:=h
 rw[show 48+(c.toNat-48)=c.toNat by omega];simp
theorem ADm:∀(k:Nat) (s:List UInt8),s.length=k→k≤9→s≠[]→(∀c∈s,PL c)→(1<s.length→s.head?≠some 48)→decB (DY 0 s)=s:=by
 intro k
 induction k with
 |zero=>intro s h _ hn;exact absurd (List.length_eq_zero_iff.1 h) hn
 |succ k ih=>
  intro s hl hk hn hd hc
  rcases List.eq_nil_or_concat s with rfl|⟨p,c,rfl⟩
  ·exact absurd rfl hn
  rw[List.concat_eq_append]at*
  have hcd:=hd c (by simp)
  have hpd:∀x∈p,PL x:=fun x hx=>hd x (List.mem_append_left _ hx)
  rw[Nz]
  have hc2:=hcd
  unfold PL at hc2
  by_cases hp:p=[]
  ·subst hp
   rw[show DY 0 []=0 from rfl,Ho (by omega),show 48+(0*10+(c.toNat-48))=48+(c.toNat-48)by omega,Qa hcd];rfl
  ·have hpl:0<p.length:=List.length_pos_iff.2 hp
   rw[List.length_append,List.length_singleton]at hl hc
   have hh:p.head?≠some 48:=by
    have:=hc (by omega)
    match p,hp with
    |x::q,_=>simpa using this
   have ih':=ih p (by omega) (by omega) hp hpd (fun _=>hh)
   have hv:1≤DY 0 p:=by
    refine Nat.pos_of_ne_zero fun h0=> ?_
    rw[h0,Ho (by omega)]at ih'
    rw[←ih']at hh
    exact hh rfl
   have hlt:=Me p 0 hpd
   have h2:10^p.length≤10^9:=Nat.pow_le_pow_right (by omega) (by omega)
   rw[Ik (by omega) (by omega),show(DY 0 p*10+(c.toNat-48))/10=DY 0 p by omega,show(DY 0 p*10+(c.toNat-48))%10=c.toNat-48 by omega,Qa hcd,ih']
theorem Ym {n:Nat} (h:n<1000000000):1<(decB n).length→(decB n).head?≠some 48:=by
 have key:∀k n,n<10^k→n<1000000000→0<n→(decB n).head?≠some 48:=by
  intro k
  induction k with
  |zero=>intro n h _ h0;simp at h;omega
  |succ k ih=>
   intro n h h2 h0
   by_cases h1:n<10
   ·rw[Ho h1]
    simp only[List.head?_cons,ne_eq,Option.some.injEq]
    intro e
    have:=congrArg UInt8.toNat e
    rw[Jc h1]at this
    simp at this;omega
   ·rw[Ik h1 (by omega)]
    have:=ih (n/10) (by rw[Nat.pow_succ]at h;omega) (by omega) (by omega)
    have hne:=Tt (n/10)
    generalize decB (n/10)=l at*
    match l,hne with
    |x::q,_=>simpa using this
 intro hl
 by_cases h0:0<n
 ·exact key 9 n h h h0
 ·obtain rfl:n=0:=by omega
  rw[Ho (by omega)]at hl;simp at hl
theorem ABy {n:Nat} (h:n<1000000000):DY 0 (decB n)=n:=by
 have key:∀k n,n<10^k→n<1000000000→DY 0 (decB n)=n:=by
  intro k
  induction k with
  |zero=>intro n h _;obtain rfl:n=0:=by simpa using h
         rw[Ho (by omega)];rfl
  |succ k ih=>
   intro n h h2
   by_cases h1:n<10
   ·rw[Ho h1];simp only[DY,List.foldl_cons,List.foldl_nil];rw[Jc h1];omega
   ·rw[Ik h1 (by omega),Nz,ih (n/10) (by rw[Nat.pow_succ]at h;omega) (by omega),Jc (Nat.mod_lt _ (by omega))];omega
 exact key 9 n h h
end
section
open Go AM
abbrev Hq (f:Fl) (l:List Int):V:= .lst 3 f (l.map fun(v:Int)=>V.int .i64 v)
@[go_sem] theorem AIA (l:List Int):Kw (l.map fun(v:Int)=>V.int .i64 v)=true:=Ef (fun _=>rfl) l
def DI (l:List Int):List UInt8:=l.flatMap fun n=>32::Du n
def Hr (w:List UInt8) (l:List Int):List UInt8:=w++DI l++[10]
theorem Ux (l:List Int) (n:Int):DI (l++[n])=DI l++32::Du n:=by simp[DI]
theorem N7 (l:List Int):(DI l).length≤22*l.length:=by
 induction l with
 |nil=>simp[DI]
 |cons n l ih=>
  have:=Ut n
  simp only[DI,List.flatMap_cons,List.length_append,List.length_cons]at ih⊢
  omega
theorem ADn {w:List UInt8} (hw:w.length≤3000) {l:List Int} (hn:∀n∈l,-1000000000000000000≤n∧n≤1000000000000000000) (hl:l.length≤1000):∀(m i:Nat),i+m=l.length→
 Rf (.str (w++DI (l.take i))) (Hq .sh l) (.int .i64 (l.length:Int)) (.int .i64 (i:Int)) []=some (.str (Hr w l),[]):=by
 intro m
 induction m with
 |zero=>
  intro i hi
  have hwl:=N7 l
  rw[List.take_of_length_le (by omega),Hr,Py]
  have ad:AL .add (.str (w++DI l)) (.str [10])=some (.str (w++DI l++[10])):=QS _ _ (by simp;omega)
  generalize w++DI l=x at*
  (repeat' with_reducible first|refine(Af _ _).trans ?_|refine(Aa _ _).trans ?_|refine(AA _ _).trans ?_|refine(AB (by first|rfl|(simp(disch:=first|assumption|omega|(with_reducible rfl)|(simp only[go_sem];done)|(simp only[go_sem];omega)|fail) only[↓reduceIte,↓AA,Nat.reduceAdd,go_sem,Bool.not_true,Bool.not_false,ad];rfl)) _).trans ?_|refine(if_pos (by first|rfl|(simp(disch:=first|assumption|omega|(with_reducible rfl)|(simp only[go_sem];done)|(simp only[go_sem];omega)|fail) only[↓reduceIte,↓AA,Nat.reduceAdd,go_sem,Bool.not_true,Bool.not_false,ad];done))).trans ?_|refine(AQ (by first|assumption|omega|(simp(disch:=first|assumption|omega|(with_reducible rfl)|(simp only[go_sem];done)|(simp only[go_sem];omega)|fail) only[↓reduceIte,↓AA,Nat.reduceAdd,go_sem,Bool.not_true,Bool.not_false,ad];done)|(simp(disch:=first|assumption|omega|(with_reducible rfl)|(simp only[go_sem];done)|(simp only[go_sem];omega)|fail) only[↓reduceIte,↓AA,Nat.reduceAdd,go_sem,Bool.not_true,Bool.not_false,ad];omega)) _ _).trans ?_|refine(AO (by first|assumption|omega|(simp(disch:=first|assumption|omega|(with_reducible rfl)|(simp only[go_sem];done)|(simp only[go_sem];omega)|fail) only[↓reduceIte,↓AA,Nat.reduceAdd,go_sem,Bool.not_true,Bool.not_false,ad];done)|(simp(disch:=first|assumption|omega|(with_reducible rfl)|(simp only[go_sem];done)|(simp only[go_sem];omega)|fail) only[↓reduceIte,↓AA,Nat.reduceAdd,go_sem,Bool.not_true,Bool.not_false,ad];omega)) _ _).trans ?_|fail)
  rfl
 |succ m ih=>
  intro i hi
  have h:i<l.length:=by omega
  have hx:(l.map fun(v:Int)=>V.int .i64 v)[i]?=some (V.int .i64 l[i]):=by simp[h]
  have hb:=hn _ (List.getElem_mem h)
  have it:=ABx hb.1 hb.2 []
  have hwl:=N7 (l.take i)
  have htl:(l.take i).length≤1000:=by rw[List.length_take];omega
  have dl:=Ut l[i]
  have ih':=ih (i+1) (by omega)
  rw[←List.take_append_getElem h,Ux]at ih'
  have a1:AL .add (.str [32]) (.str (Du l[i]))=some (.str (32::Du l[i])):=QS [32] _ (by simp;omega)
  have a2:AL .add (.str (w++DI (l.take i))) (.str (32::Du l[i]))=some (.str (w++(DI (l.take i)++32::Du l[i]))):=by
   rw[←List.append_assoc];exact QS _ _ (by simp;omega)
  rw[←ih',Py]
  clear ih ih'
  generalize w++(DI (l.take i)++32::Du l[i])=y at*
  generalize w++DI (l.take i)=x at*
  generalize 32::Du l[i]=z at*
  generalize Du l[i]=d at*
  generalize l[i]=k at*
  (repeat' with_reducible first|refine(Af _ _).trans ?_|refine(Aa _ _).trans ?_|refine(AA _ _).trans ?_|refine(AB (by first|rfl|(simp(disch:=first|assumption|omega|(with_reducible rfl)|(simp only[go_sem];done)|(simp only[go_sem];omega)|fail) only[↓reduceIte,↓AA,Nat.reduceAdd,go_sem,Bool.not_true,Bool.not_false,hx,it,a1,a2];rfl)) _).trans ?_|refine(if_pos (by first|rfl|(simp(disch:=first|assumption|omega|(with_reducible rfl)|(simp only[go_sem];done)|(simp only[go_sem];omega)|fail) only[↓reduceIte,↓AA,Nat.reduceAdd,go_sem,Bool.not_true,Bool.not_false,hx,it,a1,a2];done))).trans ?_|refine(AQ (by first|assumption|omega|(simp(disch:=first|assumption|omega|(with_reducible rfl)|(simp only[go_sem];done)|(simp only[go_sem];omega)|fail) only[↓reduceIte,↓AA,Nat.reduceAdd,go_sem,Bool.not_true,Bool.not_false,hx,it,a1,a2];done)|(simp(disch:=first|assumption|omega|(with_reducible rfl)|(simp only[go_sem];done)|(simp only[go_sem];omega)|fail) only[↓reduceIte,↓AA,Nat.reduceAdd,go_sem,Bool.not_true,Bool.not_false,hx,it,a1,a2];omega)) _ _).trans ?_|refine(AO (by first|assumption|omega|(simp(disch:=first|assumption|omega|(with_reducible rfl)|(simp only[go_sem];done)|(simp only[go_sem];omega)|fail) only[↓reduceIte,↓AA,Nat.reduceAdd,go_sem,Bool.not_true,Bool.not_false,hx,it,a1,a2];done)|(simp(disch:=first|assumption|omega|(with_reducible rfl)|(simp only[go_sem];done)|(simp only[go_sem];omega)|fail) only[↓reduceIte,↓AA,Nat.reduceAdd,go_sem,Bool.not_true,Bool.not_false,hx,it,a1,a2];omega)) _ _).trans ?_|fail)
  rfl
theorem ABz {w:List UInt8} (hw:w.length≤3000) {l:List Int} (hn:∀n∈l,-1000000000000000000≤n∧n≤1000000000000000000) (hl:l.length≤1000):Cl 34 [.str w,Hq .sh l] []=some (.str (Hr w l),[]):=by
 have h:=ADn hw hn hl l.length 0 (by omega)
 rw[List.take_zero,show DI []=[]from rfl,List.append_nil]at h
 simp only[c0]at h
 rw[←h,AFH]
 (repeat' with_reducible first|refine(Af _ _).trans ?_|refine(Aa _ _).trans ?_|refine(AA _ _).trans ?_|refine(AB (by first|rfl|(simp(disch:=first|assumption|omega|(with_reducible rfl)|(simp only[go_sem];done)|(simp only[go_sem];omega)|fail) only[↓reduceIte,↓AA,Nat.reduceAdd,go_sem,Bool.not_true,Bool.not_false];rfl)) _).trans ?_|refine(if_pos (by first|rfl|(simp(disch:=first|assumption|omega|(with_reducible rfl)|(simp only[go_sem];done)|(simp only[go_sem];omega)|fail) only[↓reduceIte,↓AA,Nat.reduceAdd,go_sem,Bool.not_true,Bool.not_false];done))).trans ?_|refine(AQ (by first|assumption|omega|(simp(disch:=first|assumption|omega|(with_reducible rfl)|(simp only[go_sem];done)|(simp only[go_sem];omega)|fail) only[↓reduceIte,↓AA,Nat.reduceAdd,go_sem,Bool.not_true,Bool.not_false];done)|(simp(disch:=first|assumption|omega|(with_reducible rfl)|(simp only[go_sem];done)|(simp only[go_sem];omega)|fail) only[↓reduceIte,↓AA,Nat.reduceAdd,go_sem,Bool.not_true,Bool.not_false];omega)) _ _).trans ?_|refine(AO (by first|assumption|omega|(simp(disch:=first|assumption|omega|(with_reducible rfl)|(simp only[go_sem];done)|(simp only[go_sem];omega)|fail) only[↓reduceIte,↓AA,Nat.reduceAdd,go_sem,Bool.not_true,Bool.not_false];done)|(simp(disch:=first|assumption|omega|(with_reducible rfl)|(simp only[go_sem];done)|(simp only[go_sem];omega)|fail) only[↓reduceIte,↓AA,Nat.reduceAdd,go_sem,Bool.not_true,Bool.not_false];omega)) _ _).trans ?_|fail)
 rfl
def Ht (ns:List Nat):List UInt8:=ns.flatMap fun n=>32::decB n
abbrev DN (f:Fl) (ns:List Nat):V:= .lst 3 f (ns.map fun(v:Nat)=>V.int .i64 (v:Int))
theorem N8 (ns:List Nat):DI (ns.map fun(n:Nat)=>(n:Int))=Ht ns:=by
 simp only[DI,Ht,List.flatMap_map,ABu]
def C9:List UInt8:=[101,100,103,101]
def BR:List UInt8:=[103,114,97,112,104]
end
section
open Go AM
def ADo (t0 t1 t5 t6 t7 t8 t9 t10:V):Rv:=lp W 53 1 (cd 53 2303) (bk 1 (sk 53 0 1023 (lv 53 0))) ⟨[(0,t0),(1,t1),(5,t5),(6,t6),(7,t7),(8,t8),(9,t9),(10,t10)],[]⟩
theorem ADp (t0 t1:V):Cl 53 [t0,t1] []=
 (MW t1).bind fun t15_1=>jn (fun t16_2=>
 V.ite t16_2
  (AY 0 [] (V.int .i64 0))
  ((AL .eql t15_1 (V.int .i64 1)).bind fun t26_3=>V.ite t26_3
  ((Pm t1 (V.int .i64 0)).bind fun t29_4=>(Cl 68 (AZ [] [t0,t29_4]) []).bind fun r_5=>AY 0 [] r_5.1)
  ((MW t0).bind fun t34_6=>(AL .geq t15_1 t34_6).bind fun t35_7=>V.ite t35_7
  (AY 0 [] (V.int .i64 (-1)))
  (jn (fun t36_8=>
 V.ite t36_8
  ((Cl 69 (AZ [] [t0,t1]) []).bind fun r_9=>AY 0 [] r_9.1)
  ((Pm t1 (V.int .i64 0)).bind fun t49_10=>(Pm t1 (V.int .i64 1)).bind fun t51_11=>(MW t0).bind fun t53_12=>(AL .sub t53_12 t15_1).bind fun t55_13=>(AL .add t55_13 (V.int .i64 1)).bind fun t56_14=>ADo t0 t1 t15_1 t49_10 t51_11 (V.int .i64 0) t56_14 (V.int .i64 0))) (fun(k_57:V→Rv)=>(A8 [] 3 V.undef).bind fun t38_58=>(AL .leq t15_1 t38_58).bind fun t39_59=>V.ite t39_59 ((MW t0).bind fun t42_60=>(AL .leq t42_60 (V.int .i64 64)).bind fun t43_61=>k_57 t43_61) (k_57 (V.bool false))))))) (fun(k_62:V→Rv)=>(AL .eql t15_1 (V.int .i64 0)).bind fun t18_63=>V.ite t18_63 (k_62 (V.bool true)) ((AL .eql t1 t0).bind fun t22_64=>k_62 t22_64)):=
 Bh (by kernel_rfl)
end
section
open Go AM
theorem Tz:∀(a b:List UInt8) (c:UInt8),c∉a→Lib.indexByte (a++c::b) c=(a.length:Int)
 |[],b,c,_=>by simp[Lib.indexByte]
 |x::a,b,c,h=>by
  have h1:¬(x==c)=true:=fun e=>h (by rw[beq_iff_eq]at e;rw[e];exact List.mem_cons_self)
  have ih:=Tz a b c (fun hm=>h (List.mem_cons_of_mem _ hm))
  rw[List.cons_append,Lib.indexByte,if_neg h1,ih,if_neg (by rw[beq_iff_eq];omega),List.length_cons]
  omega
theorem Uy:∀(a:List UInt8) (c:UInt8),c∉a→Lib.indexByte a c= -1
 |[],c,_=>rfl
 |x::a,c,h=>by
  have h1:¬(x==c)=true:=fun e=>h (by rw[beq_iff_eq]at e;rw[e];exact List.mem_cons_self)
  have ih:=Uy a c (fun hm=>h (List.mem_cons_of_mem _ hm))
  rw[Lib.indexByte,if_neg h1,ih];rfl
theorem AGF (c:UInt8):((c.toNat:Int).toNat).toUInt8=c:=by simp
theorem AIB (s:List UInt8) (c:UInt8):Cl 68 [.str s,.int .u8 (c.toNat:Int)] []=some (.int .i64 (Lib.indexByte s c),[]):=by
 rw[AFa]
 simp only[Zb,Zj,AGF]
 rfl
theorem WZ (s:List UInt8) (c:UInt8):Cl 53 [.str s,.str [c]] []=some (.int .i64 (Lib.indexByte s c),[]):=by
 have ib:=AIB s c
 have x0:Pm (.str [c]) (.int .i64 0)=some (.int .u8 (c.toNat:Int)):=rfl
 have l1:MW (.str [c])=some (.int .i64 1):=rfl
 rw[ADp]
 by_cases hs:[c]=s
 ·have e:AL .eql (.str [c]) (.str s)=some (.bool true):=by rw[hs];simp[AL]
  have e2:Lib.indexByte s c=0:=by rw[←hs];simp[Lib.indexByte]
  rw[e2]
  (repeat' with_reducible first|refine(Af _ _).trans ?_|refine(Aa _ _).trans ?_|refine(AA _ _).trans ?_|refine(AB (by first|rfl|(simp(disch:=first|assumption|omega|(with_reducible rfl)|(simp only[go_sem];done)|(simp only[go_sem];omega)|fail) only[↓reduceIte,↓AA,Nat.reduceAdd,go_sem,Bool.not_true,Bool.not_false,l1,e];rfl)) _).trans ?_|refine(if_pos (by first|rfl|(simp(disch:=first|assumption|omega|(with_reducible rfl)|(simp only[go_sem];done)|(simp only[go_sem];omega)|fail) only[↓reduceIte,↓AA,Nat.reduceAdd,go_sem,Bool.not_true,Bool.not_false,l1,e];done))).trans ?_|refine(AQ (by first|assumption|omega|(simp(disch:=first|assumption|omega|(with_reducible rfl)|(simp only[go_sem];done)|(simp only[go_sem];omega)|fail) only[↓reduceIte,↓AA,Nat.reduceAdd,go_sem,Bool.not_true,Bool.not_false,l1,e];done)|(simp(disch:=first|assumption|omega|(with_reducible rfl)|(simp only[go_sem];done)|(simp only[go_sem];omega)|fail) only[↓reduceIte,↓AA,Nat.reduceAdd,go_sem,Bool.not_true,Bool.not_false,l1,e];omega)) _ _).trans ?_|refine(AO (by first|assumption|omega|(simp(disch:=first|assumption|omega|(with_reducible rfl)|(simp only[go_sem];done)|(simp only[go_sem];omega)|fail) only[↓reduceIte,↓AA,Nat.reduceAdd,go_sem,Bool.not_true,Bool.not_false,l1,e];done)|(simp(disch:=first|assumption|omega|(with_reducible rfl)|(simp only[go_sem];done)|(simp only[go_sem];omega)|fail) only[↓reduceIte,↓AA,Nat.reduceAdd,go_sem,Bool.not_true,Bool.not_false,l1,e];omega)) _ _).trans ?_|fail)
  rfl
 ·have e:AL .eql (.str [c]) (.str s)=some (.bool false):=by simp[AL,hs]
  (repeat' with_reducible first|refine(Af _ _).trans ?_|refine(Aa _ _).trans ?_|refine(AA _ _).trans ?_|refine(AB (by first|rfl|(simp(disch:=first|assumption|omega|(with_reducible rfl)|(simp only[go_sem];done)|(simp only[go_sem];omega)|fail) only[↓reduceIte,↓AA,Nat.reduceAdd,go_sem,Bool.not_true,Bool.not_false,l1,e,x0,ib];rfl)) _).trans ?_|refine(if_pos (by first|rfl|(simp(disch:=first|assumption|omega|(with_reducible rfl)|(simp only[go_sem];done)|(simp only[go_sem];omega)|fail) only[↓reduceIte,↓AA,Nat.reduceAdd,go_sem,Bool.not_true,Bool.not_false,l1,e,x0,ib];done))).trans ?_|refine(AQ (by first|assumption|omega|(simp(disch:=first|assumption|omega|(with_reducible rfl)|(simp only[go_sem];done)|(simp only[go_sem];omega)|fail) only[↓reduceIte,↓AA,Nat.reduceAdd,go_sem,Bool.not_true,Bool.not_false,l1,e,x0,ib];done)|(simp(disch:=first|assumption|omega|(with_reducible rfl)|(simp only[go_sem];done)|(simp only[go_sem];omega)|fail) only[↓reduceIte,↓AA,Nat.reduceAdd,go_sem,Bool.not_true,Bool.not_false,l1,e,x0,ib];omega)) _ _).trans ?_|refine(AO (by first|assumption|omega|(simp(disch:=first|assumption|omega|(with_reducible rfl)|(simp only[go_sem];done)|(simp only[go_sem];omega)|fail) only[↓reduceIte,↓AA,Nat.reduceAdd,go_sem,Bool.not_true,Bool.not_false,l1,e,x0,ib];done)|(simp(disch:=first|assumption|omega|(with_reducible rfl)|(simp only[go_sem];done)|(simp only[go_sem];omega)|fail) only[↓reduceIte,↓AA,Nat.reduceAdd,go_sem,Bool.not_true,Bool.not_false,l1,e,x0,ib];omega)) _ _).trans ?_|fail)
  rfl
theorem Yn (s:List UInt8) (c:UInt8):Cl 74 [.str s,.str [c]] []=some (.int .i64 (Lib.indexByte s c),[]):=by
 have ix:=WZ s c
 rw[AFd]
 (repeat' with_reducible first|refine(Af _ _).trans ?_|refine(Aa _ _).trans ?_|refine(AA _ _).trans ?_|refine(AB (by first|rfl|(simp(disch:=first|assumption|omega|(with_reducible rfl)|(simp only[go_sem];done)|(simp only[go_sem];omega)|fail) only[↓reduceIte,↓AA,Nat.reduceAdd,go_sem,Bool.not_true,Bool.not_false,ix];rfl)) _).trans ?_|refine(if_pos (by first|rfl|(simp(disch:=first|assumption|omega|(with_reducible rfl)|(simp only[go_sem];done)|(simp only[go_sem];omega)|fail) only[↓reduceIte,↓AA,Nat.reduceAdd,go_sem,Bool.not_true,Bool.not_false,ix];done))).trans ?_|refine(AQ (by first|assumption|omega|(simp(disch:=first|assumption|omega|(with_reducible rfl)|(simp only[go_sem];done)|(simp only[go_sem];omega)|fail) only[↓reduceIte,↓AA,Nat.reduceAdd,go_sem,Bool.not_true,Bool.not_false,ix];done)|(simp(disch:=first|assumption|omega|(with_reducible rfl)|(simp only[go_sem];done)|(simp only[go_sem];omega)|fail) only[↓reduceIte,↓AA,Nat.reduceAdd,go_sem,Bool.not_true,Bool.not_false,ix];omega)) _ _).trans ?_|refine(AO (by first|assumption|omega|(simp(disch:=first|assumption|omega|(with_reducible rfl)|(simp only[go_sem];done)|(simp only[go_sem];omega)|fail) only[↓reduceIte,↓AA,Nat.reduceAdd,go_sem,Bool.not_true,Bool.not_false,ix];done)|(simp(disch:=first|assumption|omega|(with_reducible rfl)|(simp only[go_sem];done)|(simp only[go_sem];omega)|fail) only[↓reduceIte,↓AA,Nat.reduceAdd,go_sem,Bool.not_true,Bool.not_false,ix];omega)) _ _).trans ?_|fail)
 rfl
theorem AB0 {a b:List UInt8} {c:UInt8} (hc:c∉a) (hl:(a++c::b).length≤1000000):Cl 35 [.str (a++c::b),.str [c]] []=some (.tup [.str a,.str b,.bool true],[]):=by
 have ix:=WZ (a++c::b) c
 rw[Tz a b c hc]at ix
 have s1:UO (.str (a++c::b)) none (some (.int .i64 (a.length:Int)))=some (.str a):=by
  rw[ABc (by simp)];simp
 have s2:UO (.str (a++c::b)) (some (.int .i64 ((a.length+1:Nat):Int))) none=some (.str b):=by
  rw[ABb (by simp)]
  rw[show a++c::b=(a++[c])++b by simp,List.drop_left' (by simp)]
 have l1:MW (.str [c])=some (.int .i64 1):=rfl
 have ad:AL .add (.int .i64 (a.length:Int)) (.int .i64 1)=some (.int .i64 ((a.length+1:Nat):Int)):=by
  have:a.length≤1000000:=by simp at hl;omega
  rw[DZ,Ad (by omega) (by omega)];rfl
 have h45:Cl 45 [.str (a++c::b),.str [c]] []=some (.tup [.str a,.str b,.bool true],[]):=by
  rw[AAA]
  generalize a++c::b=s at*
  (repeat' with_reducible first|refine(Af _ _).trans ?_|refine(Aa _ _).trans ?_|refine(AA _ _).trans ?_|refine(AB (by first|rfl|(simp(disch:=first|assumption|omega|(with_reducible rfl)|(simp only[go_sem];done)|(simp only[go_sem];omega)|fail) only[↓reduceIte,↓AA,Nat.reduceAdd,go_sem,Bool.not_true,Bool.not_false,ix,s1,s2,l1,ad];rfl)) _).trans ?_|refine(if_pos (by first|rfl|(simp(disch:=first|assumption|omega|(with_reducible rfl)|(simp only[go_sem];done)|(simp only[go_sem];omega)|fail) only[↓reduceIte,↓AA,Nat.reduceAdd,go_sem,Bool.not_true,Bool.not_false,ix,s1,s2,l1,ad];done))).trans ?_|refine(AQ (by first|assumption|omega|(simp(disch:=first|assumption|omega|(with_reducible rfl)|(simp only[go_sem];done)|(simp only[go_sem];omega)|fail) only[↓reduceIte,↓AA,Nat.reduceAdd,go_sem,Bool.not_true,Bool.not_false,ix,s1,s2,l1,ad];done)|(simp(disch:=first|assumption|omega|(with_reducible rfl)|(simp only[go_sem];done)|(simp only[go_sem];omega)|fail) only[↓reduceIte,↓AA,Nat.reduceAdd,go_sem,Bool.not_true,Bool.not_false,ix,s1,s2,l1,ad];omega)) _ _).trans ?_|refine(AO (by first|assumption|omega|(simp(disch:=first|assumption|omega|(with_reducible rfl)|(simp only[go_sem];done)|(simp only[go_sem];omega)|fail) only[↓reduceIte,↓AA,Nat.reduceAdd,go_sem,Bool.not_true,Bool.not_false,ix,s1,s2,l1,ad];done)|(simp(disch:=first|assumption|omega|(with_reducible rfl)|(simp only[go_sem];done)|(simp only[go_sem];omega)|fail) only[↓reduceIte,↓AA,Nat.reduceAdd,go_sem,Bool.not_true,Bool.not_false,ix,s1,s2,l1,ad];omega)) _ _).trans ?_|fail)
  rfl
 rw[Z4]
 generalize a++c::b=s at*
 (repeat' with_reducible first|refine(Af _ _).trans ?_|refine(Aa _ _).trans ?_|refine(AA _ _).trans ?_|refine(AB (by first|rfl|(simp(disch:=first|assumption|omega|(with_reducible rfl)|(simp only[go_sem];done)|(simp only[go_sem];omega)|fail) only[↓reduceIte,↓AA,Nat.reduceAdd,go_sem,Bool.not_true,Bool.not_false,h45];rfl)) _).trans ?_|refine(if_pos (by first|rfl|(simp(disch:=first|assumption|omega|(with_reducible rfl)|(simp only[go_sem];done)|(simp only[go_sem];omega)|fail) only[↓reduceIte,↓AA,Nat.reduceAdd,go_sem,Bool.not_true,Bool.not_false,h45];done))).trans ?_|refine(AQ (by first|assumption|omega|(simp(disch:=first|assumption|omega|(with_reducible rfl)|(simp only[go_sem];done)|(simp only[go_sem];omega)|fail) only[↓reduceIte,↓AA,Nat.reduceAdd,go_sem,Bool.not_true,Bool.not_false,h45];done)|(simp(disch:=first|assumption|omega|(with_reducible rfl)|(simp only[go_sem];done)|(simp only[go_sem];omega)|fail) only[↓reduceIte,↓AA,Nat.reduceAdd,go_sem,Bool.not_true,Bool.not_false,h45];omega)) _ _).trans ?_|refine(AO (by first|assumption|omega|(simp(disch:=first|assumption|omega|(with_reducible rfl)|(simp only[go_sem];done)|(simp only[go_sem];omega)|fail) only[↓reduceIte,↓AA,Nat.reduceAdd,go_sem,Bool.not_true,Bool.not_false,h45];done)|(simp(disch:=first|assumption|omega|(with_reducible rfl)|(simp only[go_sem];done)|(simp only[go_sem];omega)|fail) only[↓reduceIte,↓AA,Nat.reduceAdd,go_sem,Bool.not_true,Bool.not_false,h45];omega)) _ _).trans ?_|fail)
 rfl
theorem Yo (l:List (List UInt8)):Kw (l.map V.str)=true:=Ef (fun _=>rfl) l
def BJ:List (List UInt8)→List UInt8
 |[]=>[]
 |[p]=>p
 |p::q::r=>p++32::BJ (q::r)
theorem LM:∀(ps:List (List UInt8)),ps≠[]→(∀p∈ps,(32:UInt8)∉p)→(BJ ps).count 32+1=ps.length
 |[],h,_=>absurd rfl h
 |[p],_,h=>by rw[BJ,List.count_eq_zero.2 (h p (by simp))];rfl
 |p::q::r,_,h=>by
  have ih:=LM (q::r) (by simp) (fun x hx=>h x (List.mem_cons_of_mem _ hx))
  rw[BJ,List.count_append,List.count_cons_self,List.count_eq_zero.2 (h p (by simp)),List.length_cons,←ih];omega
abbrev UA (xs:List V):V:= .row 9 xs
theorem AB1 {K:Nat} (hK:K≤100000):∀(ps:List (List UInt8)) (i:Nat) (done:List (List UInt8)) (rest:List V),ps≠[]→(∀p∈ps,(32:UInt8)∉p)→(BJ ps).length≤100000→i+ps.length=K→done.length=i→rest.length=ps.length→
 NU (.str (BJ ps)) (.str [32]) (.int .i64 0) (.int .i64 ((K-1:Nat):Int)) (.win 0 [] 0 K 9) (.int .i64 (i:Int)) [UA (done.map V.str++rest)]=some (.lst 9 .sh ((done++ps).map V.str),[]):=by
 intro ps
 induction ps with
 |nil=>intro i done rest h;exact absurd rfl h
 |cons p ps ih=>
  intro i done rest _ hp hj hi hd hr
  obtain⟨y,ys,rfl⟩:∃y ys,rest=y::ys:=by
   cases rest with
   |nil=>simp at hr
   |cons y ys=>exact⟨y,ys,rfl⟩
  rw[List.length_cons,List.length_cons]at hr
  rw[List.length_cons]at hi
  have hset:(done.map V.str++y::ys).set i (.str p)=(done++[p]).map V.str++ys:=by
   rw[List.set_append_right _ _ (by simp;omega)]
   simp[hd]
  have hlen:(done.map V.str++y::ys).length=K:=by simp;omega
  have xx:D6 9 (V.weak (.win 0 [] 0 K 9)) (.int .i64 (i:Int))=some (.ref 0 [i] 9):=by
   have hin:Bz (i:Int) K=true:=by simp only[Bz,Bool.and_eq_true,decide_eq_true_eq];omega
   simp only[V.weak,D6,hin,Int.toNat_natCast,decide_true,Bool.and_self,if_true,List.nil_append,Nat.zero_add]
  have st:Ju AM.tyS 9 [UA (done.map V.str++y::ys)] (.ref 0 [i] 9) (.str p)=some [UA ((done++[p]).map V.str++ys)]:=by
   rw[AHf rfl rfl]
   simp only[List.getElem?_cons_zero,Option.bind_some]
   rw[AFt (by omega),hset];rfl
  have ad:AL .add (.int .i64 (i:Int)) (.int .i64 1)=some (.int .i64 ((i+1:Nat):Int)):=by
   rw[DZ,Ad (by omega) (by omega)];rfl
  cases ps with
  |nil=>
   obtain rfl:ys=[]:=by
    rw[List.length_nil]at hr
    exact List.length_eq_zero_iff.1 (by omega)
   have hi':i+1=K:=by simpa using hi
   have ls:AL .lss (.int .i64 (i:Int)) (.int .i64 ((K-1:Nat):Int))=some (.bool false):=by rw[b_lss,decide_eq_false (by omega)]
   have sl:Zc 9 (.win 0 [] 0 K 9) none (some (.int .i64 ((i+1:Nat):Int))) none=some (.win 0 [] 0 K 9):=by
    rw[hi'];simp[Zc,CY]
   have ct:BB [UA ((done++[p]).map V.str)] (.win 0 [] 0 K 9)=some ((done++[p]).map V.str):=by
    simp only[BB,rd,List.getElem?_cons_zero,Option.bind_some,V.at,V.items,Option.map_some,List.drop_zero]
    rw[List.take_of_length_le (by simp;omega)]
   have pl:Kw ((done++[p]).map V.str)=true:=Yo _
   have fn:AY 0 [UA ((done++[p]).map V.str)] (.win 0 [] 0 K 9)=some (.lst 9 .sh ((done++[p]).map V.str),[]):=by
    have u:V.unmut [UA ((done++[p]).map V.str)] (.win 0 [] 0 K 9)= .lst 9 .sh ((done++[p]).map V.str):=by
     simp only[V.unmut,ct,Ky pl,J3 pl,if_true]
    simp only[AY,u];rfl
   rw[BJ,P6]
   rw[List.append_nil]at st
   generalize (done++[p]).map V.str=L at*
   generalize done.map V.str++[y]=M at*
   refine(AB ls _).trans ?_
   rw[Aa]
   refine(AB xx _).trans ?_
   refine(AB st _).trans ?_
   refine(AB ad _).trans ?_
   refine(AB sl _).trans ?_
   exact fn
  |cons q r=>
   have h32:(32:UInt8)∉p:=hp p List.mem_cons_self
   rw[BJ]at hj⊢
   have hjl:(p++32::BJ (q::r)).length=p.length+(BJ (q::r)).length+1:=by simp;omega
   have ix:=Yn (p++32::BJ (q::r)) 32
   rw[Tz _ _ _ h32]at ix
   have ih':=ih (i+1) (done++[p]) ys (by simp) (fun x hx=>hp x (List.mem_cons_of_mem _ hx)) (by omega) (by simp at hi⊢;omega) (by simp;omega) (by omega)
   rw[List.append_assoc,List.singleton_append]at ih'
   have ls:AL .lss (.int .i64 (i:Int)) (.int .i64 ((K-1:Nat):Int))=some (.bool true):=by
    rw[b_lss,decide_eq_true (by simp at hi;omega)]
   have ls0:AL .lss (.int .i64 (p.length:Int)) (.int .i64 0)=some (.bool false):=by rw[b_lss,decide_eq_false (by omega)]
   have a0:AL .add (.int .i64 (p.length:Int)) (.int .i64 0)=some (.int .i64 (p.length:Int)):=by
    rw[DZ,Ad (by omega) (by omega)];simp
   have a1:AL .add (.int .i64 (p.length:Int)) (.int .i64 1)=some (.int .i64 ((p.length+1:Nat):Int)):=by
    rw[DZ,Ad (by omega) (by omega)];rfl
   have s1:UO (.str (p++32::BJ (q::r))) none (some (.int .i64 (p.length:Int)))=some (.str p):=by
    rw[ABc (by simp)];simp
   have s2:UO (.str (p++32::BJ (q::r))) (some (.int .i64 ((p.length+1:Nat):Int))) none=some (.str (BJ (q::r))):=by
    rw[ABb (by simp)]
    rw[show p++32::BJ (q::r)=(p++[32])++BJ (q::r)by simp,List.drop_left' (by simp)]
   have l1:MW (.str [32])=some (.int .i64 1):=rfl
   have ry:∀(h:List V) (s:List UInt8),AZ h [.str s,.str [32]]=[.str s,.str [32]]:=fun _ _=>rfl
   rw[←ih',P6]
   clear ih ih'
   generalize p++32::BJ (q::r)=s at*
   generalize BJ (q::r)=t at*
   generalize UA (done.map V.str++y::ys)=R1 at*
   generalize UA ((done++[p]).map V.str++ys)=R2 at*
   generalize (V.win 0 [] 0 K 9).weak=W0 at*
   refine(AB ls _).trans ?_
   rw[Af]
   rw[ry]
   refine(AB ix _).trans ?_
   refine(AB ls0 _).trans ?_
   rw[Aa]
   refine(AB a0 _).trans ?_
   refine(AB s1 _).trans ?_
   refine(AB xx _).trans ?_
   refine(AB st _).trans ?_
   refine(AB l1 _).trans ?_
   refine(AB a1 _).trans ?_
   refine(AB s2 _).trans ?_
   refine(AB ad _).trans ?_
   rfl
theorem AB2 (s:List UInt8):Cl 73 [.str s,.str [32]] []=some (.int .i64 (s.count 32:Int),[]):=by
 have l1:MW (.str [32])=some (.int .i64 1):=rfl
 have x0:Pm (.str [32]) (.int .i64 0)=some (.int .u8 32):=rfl
 have mz:∀k:V→List V→Rv,Zb P 2 93 [.str s,.int .u8 32] [] k=k (.int .i64 (s.count 32:Int)) []:=fun k=>by
  simp only[Zb,Zj];rfl
 rw[AFc]
 (repeat' with_reducible first|refine(Af _ _).trans ?_|refine(Aa _ _).trans ?_|refine(AA _ _).trans ?_|refine(AB (by first|rfl|(simp(disch:=first|assumption|omega|(with_reducible rfl)|(simp only[go_sem];done)|(simp only[go_sem];omega)|fail) only[↓reduceIte,↓AA,Nat.reduceAdd,go_sem,Bool.not_true,Bool.not_false,l1,x0];rfl)) _).trans ?_|refine(if_pos (by first|rfl|(simp(disch:=first|assumption|omega|(with_reducible rfl)|(simp only[go_sem];done)|(simp only[go_sem];omega)|fail) only[↓reduceIte,↓AA,Nat.reduceAdd,go_sem,Bool.not_true,Bool.not_false,l1,x0];done))).trans ?_|refine(AQ (by first|assumption|omega|(simp(disch:=first|assumption|omega|(with_reducible rfl)|(simp only[go_sem];done)|(simp only[go_sem];omega)|fail) only[↓reduceIte,↓AA,Nat.reduceAdd,go_sem,Bool.not_true,Bool.not_false,l1,x0];done)|(simp(disch:=first|assumption|omega|(with_reducible rfl)|(simp only[go_sem];done)|(simp only[go_sem];omega)|fail) only[↓reduceIte,↓AA,Nat.reduceAdd,go_sem,Bool.not_true,Bool.not_false,l1,x0];omega)) _ _).trans ?_|refine(AO (by first|assumption|omega|(simp(disch:=first|assumption|omega|(with_reducible rfl)|(simp only[go_sem];done)|(simp only[go_sem];omega)|fail) only[↓reduceIte,↓AA,Nat.reduceAdd,go_sem,Bool.not_true,Bool.not_false,l1,x0];done)|(simp(disch:=first|assumption|omega|(with_reducible rfl)|(simp only[go_sem];done)|(simp only[go_sem];omega)|fail) only[↓reduceIte,↓AA,Nat.reduceAdd,go_sem,Bool.not_true,Bool.not_false,l1,x0];omega)) _ _).trans ?_|fail)
 rw[mz]
 rfl
theorem AB3 {ps:List (List UInt8)} (hn:ps≠[]) (hp:∀p∈ps,(32:UInt8)∉p) (hj:(BJ ps).length≤100000) (hK:ps.length≤100000):Cl 46 [.str (BJ ps),.str [32]] []=some (.lst 9 .sh (ps.map V.str),[]):=by
 have hpos:0<ps.length:=List.length_pos_iff.2 hn
 have cn:=LM ps hn hp
 have hcl:(BJ ps).count 32≤(BJ ps).length:=List.count_le_length
 have ct:=AB2 (BJ ps)
 have h0:=AB1 hK ps 0 [] (List.replicate ps.length (.str [])) hn hp hj (by omega) rfl (by simp)
 simp only[List.map_nil,List.nil_append]at h0
 have g:Cl 54 [.str (BJ ps),.str [32],.int .i64 0,.int .i64 (-1)] []=some (.lst 9 .sh (ps.map V.str),[]):=by
  have a1:AL .add (.int .i64 ((BJ ps).count 32:Int)) (.int .i64 1)=some (.int .i64 (ps.length:Int)):=by
   rw[DZ,Ad (by omega) (by omega)];congr 2;omega
  have a2:AL .add (.int .i64 ((BJ ps).length:Int)) (.int .i64 1)=some (.int .i64 (((BJ ps).length+1:Nat):Int)):=by
   rw[DZ,Ad (by omega) (by omega)];rfl
  have mi:PD (.int .i64 (ps.length:Int)) (.int .i64 (((BJ ps).length+1:Nat):Int))=some (.int .i64 (ps.length:Int)):=by
   simp only[PD,if_true];rw[if_neg (by omega)]
  have mk:mkL 9 (.str []) (.int .i64 (ps.length:Int)) (.int .i64 (ps.length:Int))=some (.lst 9 .own (List.replicate ps.length (.str []))):=by
   simp only[mkL];rw[if_pos (by omega)];simp
  have tb:FT [] (.lst 9 .own (List.replicate ps.length (.str [])))=some (.win 0 [] 0 ps.length 9,[UA (List.replicate ps.length (.str []))]):=by
   simp[FT]
  have sb:AL .sub (.int .i64 (ps.length:Int)) (.int .i64 1)=some (.int .i64 ((ps.length-1:Nat):Int)):=by
   rw[Lr,Ad (by omega) (by omega)];congr 2;omega
  have z1:AL .eql (.int .i64 (-1)) (.int .i64 0)=some (.bool false):=rfl
  have z2:AL .eql (.str [32]) (.str [])=some (.bool false):=rfl
  have z3:AL .lss (.int .i64 (-1)) (.int .i64 0)=some (.bool true):=rfl
  have l0:MW (.str (BJ ps))=some (.int .i64 ((BJ ps).length:Int)):=rfl
  rw[AFQ]
  generalize BJ ps=s at*
  generalize List.replicate ps.length (V.str [])=Z at*
  generalize NU=L at*
  (repeat' with_reducible first|refine(Af _ _).trans ?_|refine(Aa _ _).trans ?_|refine(AA _ _).trans ?_|refine(AB (by first|rfl|(simp(disch:=first|assumption|omega|(with_reducible rfl)|(simp only[go_sem];done)|(simp only[go_sem];omega)|fail) only[↓reduceIte,↓AA,Nat.reduceAdd,go_sem,Bool.not_true,Bool.not_false,z1,z2,z3,ct,a1,a2,l0,mi,mk,tb,sb];rfl)) _).trans ?_|refine(if_pos (by first|rfl|(simp(disch:=first|assumption|omega|(with_reducible rfl)|(simp only[go_sem];done)|(simp only[go_sem];omega)|fail) only[↓reduceIte,↓AA,Nat.reduceAdd,go_sem,Bool.not_true,Bool.not_false,z1,z2,z3,ct,a1,a2,l0,mi,mk,tb,sb];done))).trans ?_|refine(AQ (by first|assumption|omega|(simp(disch:=first|assumption|omega|(with_reducible rfl)|(simp only[go_sem];done)|(simp only[go_sem];omega)|fail) only[↓reduceIte,↓AA,Nat.reduceAdd,go_sem,Bool.not_true,Bool.not_false,z1,z2,z3,ct,a1,a2,l0,mi,mk,tb,sb];done)|(simp(disch:=first|assumption|omega|(with_reducible rfl)|(simp only[go_sem];done)|(simp only[go_sem];omega)|fail) only[↓reduceIte,↓AA,Nat.reduceAdd,go_sem,Bool.not_true,Bool.not_false,z1,z2,z3,ct,a1,a2,l0,mi,mk,tb,sb];omega)) _ _).trans ?_|refine(AO (by first|assumption|omega|(simp(disch:=first|assumption|omega|(with_reducible rfl)|(simp only[go_sem];done)|(simp only[go_sem];omega)|fail) only[↓reduceIte,↓AA,Nat.reduceAdd,go_sem,Bool.not_true,Bool.not_false,z1,z2,z3,ct,a1,a2,l0,mi,mk,tb,sb];done)|(simp(disch:=first|assumption|omega|(with_reducible rfl)|(simp only[go_sem];done)|(simp only[go_sem];omega)|fail) only[↓reduceIte,↓AA,Nat.reduceAdd,go_sem,Bool.not_true,Bool.not_false,z1,z2,z3,ct,a1,a2,l0,mi,mk,tb,sb];omega)) _ _).trans ?_|fail)
  exact h0
 rw[AFL]
 generalize BJ ps=s at*
 (repeat' with_reducible first|refine(Af _ _).trans ?_|refine(Aa _ _).trans ?_|refine(AA _ _).trans ?_|refine(AB (by first|rfl|(simp(disch:=first|assumption|omega|(with_reducible rfl)|(simp only[go_sem];done)|(simp only[go_sem];omega)|fail) only[↓reduceIte,↓AA,Nat.reduceAdd,go_sem,Bool.not_true,Bool.not_false,g];rfl)) _).trans ?_|refine(if_pos (by first|rfl|(simp(disch:=first|assumption|omega|(with_reducible rfl)|(simp only[go_sem];done)|(simp only[go_sem];omega)|fail) only[↓reduceIte,↓AA,Nat.reduceAdd,go_sem,Bool.not_true,Bool.not_false,g];done))).trans ?_|refine(AQ (by first|assumption|omega|(simp(disch:=first|assumption|omega|(with_reducible rfl)|(simp only[go_sem];done)|(simp only[go_sem];omega)|fail) only[↓reduceIte,↓AA,Nat.reduceAdd,go_sem,Bool.not_true,Bool.not_false,g];done)|(simp(disch:=first|assumption|omega|(with_reducible rfl)|(simp only[go_sem];done)|(simp only[go_sem];omega)|fail) only[↓reduceIte,↓AA,Nat.reduceAdd,go_sem,Bool.not_true,Bool.not_false,g];omega)) _ _).trans ?_|refine(AO (by first|assumption|omega|(simp(disch:=first|assumption|omega|(with_reducible rfl)|(simp only[go_sem];done)|(simp only[go_sem];omega)|fail) only[↓reduceIte,↓AA,Nat.reduceAdd,go_sem,Bool.not_true,Bool.not_false,g];done)|(simp(disch:=first|assumption|omega|(with_reducible rfl)|(simp only[go_sem];done)|(simp only[go_sem];omega)|fail) only[↓reduceIte,↓AA,Nat.reduceAdd,go_sem,Bool.not_true,Bool.not_false,g];omega)) _ _).trans ?_|fail)
 rfl
end
section
open Go AM
theorem X4 {s:List UInt8} {c:UInt8} (hc:c∉s):Cl 35 [.str s,.str [c]] []=some (.tup [.str s,.str [],.bool false],[]):=by
 have ix:=WZ s c
 rw[Uy s c hc]at ix
 have ge:AL .geq (.int .i64 (-1)) (.int .i64 0)=some (.bool false):=rfl
 have h45:Cl 45 [.str s,.str [c]] []=some (.tup [.str s,.str [],.bool false],[]):=by
  rw[AAA]
  (repeat' with_reducible first|refine(Af _ _).trans ?_|refine(Aa _ _).trans ?_|refine(AA _ _).trans ?_|refine(AB (by first|rfl|(simp(disch:=first|assumption|omega|(with_reducible rfl)|(simp only[go_sem];done)|(simp only[go_sem];omega)|fail) only[↓reduceIte,↓AA,Nat.reduceAdd,go_sem,Bool.not_true,Bool.not_false,ix,ge];rfl)) _).trans ?_|refine(if_pos (by first|rfl|(simp(disch:=first|assumption|omega|(with_reducible rfl)|(simp only[go_sem];done)|(simp only[go_sem];omega)|fail) only[↓reduceIte,↓AA,Nat.reduceAdd,go_sem,Bool.not_true,Bool.not_false,ix,ge];done))).trans ?_|refine(AQ (by first|assumption|omega|(simp(disch:=first|assumption|omega|(with_reducible rfl)|(simp only[go_sem];done)|(simp only[go_sem];omega)|fail) only[↓reduceIte,↓AA,Nat.reduceAdd,go_sem,Bool.not_true,Bool.not_false,ix,ge];done)|(simp(disch:=first|assumption|omega|(with_reducible rfl)|(simp only[go_sem];done)|(simp only[go_sem];omega)|fail) only[↓reduceIte,↓AA,Nat.reduceAdd,go_sem,Bool.not_true,Bool.not_false,ix,ge];omega)) _ _).trans ?_|refine(AO (by first|assumption|omega|(simp(disch:=first|assumption|omega|(with_reducible rfl)|(simp only[go_sem];done)|(simp only[go_sem];omega)|fail) only[↓reduceIte,↓AA,Nat.reduceAdd,go_sem,Bool.not_true,Bool.not_false,ix,ge];done)|(simp(disch:=first|assumption|omega|(with_reducible rfl)|(simp only[go_sem];done)|(simp only[go_sem];omega)|fail) only[↓reduceIte,↓AA,Nat.reduceAdd,go_sem,Bool.not_true,Bool.not_false,ix,ge];omega)) _ _).trans ?_|fail)
  rfl
 rw[Z4]
 (repeat' with_reducible first|refine(Af _ _).trans ?_|refine(Aa _ _).trans ?_|refine(AA _ _).trans ?_|refine(AB (by first|rfl|(simp(disch:=first|assumption|omega|(with_reducible rfl)|(simp only[go_sem];done)|(simp only[go_sem];omega)|fail) only[↓reduceIte,↓AA,Nat.reduceAdd,go_sem,Bool.not_true,Bool.not_false,h45];rfl)) _).trans ?_|refine(if_pos (by first|rfl|(simp(disch:=first|assumption|omega|(with_reducible rfl)|(simp only[go_sem];done)|(simp only[go_sem];omega)|fail) only[↓reduceIte,↓AA,Nat.reduceAdd,go_sem,Bool.not_true,Bool.not_false,h45];done))).trans ?_|refine(AQ (by first|assumption|omega|(simp(disch:=first|assumption|omega|(with_reducible rfl)|(simp only[go_sem];done)|(simp only[go_sem];omega)|fail) only[↓reduceIte,↓AA,Nat.reduceAdd,go_sem,Bool.not_true,Bool.not_false,h45];done)|(simp(disch:=first|assumption|omega|(with_reducible rfl)|(simp only[go_sem];done)|(simp only[go_sem];omega)|fail) only[↓reduceIte,↓AA,Nat.reduceAdd,go_sem,Bool.not_true,Bool.not_false,h45];omega)) _ _).trans ?_|refine(AO (by first|assumption|omega|(simp(disch:=first|assumption|omega|(with_reducible rfl)|(simp only[go_sem];done)|(simp only[go_sem];omega)|fail) only[↓reduceIte,↓AA,Nat.reduceAdd,go_sem,Bool.not_true,Bool.not_false,h45];done)|(simp(disch:=first|assumption|omega|(with_reducible rfl)|(simp only[go_sem];done)|(simp only[go_sem];omega)|fail) only[↓reduceIte,↓AA,Nat.reduceAdd,go_sem,Bool.not_true,Bool.not_false,h45];omega)) _ _).trans ?_|fail)
 rfl
def BD:List UInt8→List (List UInt8)
 |[]=>[[]]
 |c::r=>if c=32 then[]::BD r else match BD r with
  |p::ps=>(c::p)::ps
  |[]=>[[c]]
theorem EK:∀s,BD s≠[]
 |[]=>by simp[BD]
 |c::r=>by
  rw[BD]
  split
  ·simp
  ·split<;>simp
theorem Il:∀s,∀p∈BD s,(32:UInt8)∉p
 |[],p,h=>by simp[BD]at h;subst h;simp
 |c::r,p,h=>by
  rw[BD]at h
  split at h
  ·rcases List.mem_cons.1 h with rfl|h
   ·simp
   ·exact Il r p h
  ·rename_i hc
   have ih:=Il r
   split at h
   ·rename_i q qs e
    rw[e]at ih
    rcases List.mem_cons.1 h with rfl|h
    ·intro hm
     rcases List.mem_cons.1 hm with h1|h1
     ·exact hc h1.symm
     ·exact ih q List.mem_cons_self h1
    ·exact ih p (List.mem_cons_of_mem _ h)
   ·rw[List.mem_singleton.1 h];simpa using fun e=>hc e.symm
theorem ADq (p:List UInt8) {ps:List (List UInt8)} (h:ps≠[]):BJ (p::ps)=p++32::BJ ps:=by
 match ps,h with
 |q::r,_=>rfl
theorem Dh:∀s,BJ (BD s)=s
 |[]=>rfl
 |c::r=>by
  have ih:=Dh r
  have hn:=EK r
  rw[BD]
  split
  ·rename_i hc
   rw[ADq [] hn,ih,hc];rfl
  ·split
   ·rename_i q qs e
    rw[e]at ih
    match qs,ih with
    |[],ih=>simp only[BJ]at ih⊢;rw[ih]
    |x::xs,ih=>simp only[BJ,List.cons_append]at ih⊢;rw[ih]
   ·rename_i e;exact absurd e hn
theorem Qb:∀(p:List UInt8) (s:List UInt8),(32:UInt8)∉p→BD (p++32::s)=p::BD s
 |[],s,_=>by rw[List.nil_append,BD,if_pos rfl]
 |c::p,s,h=>by
  have hc:¬c=32:=fun e=>h (by rw[e];exact List.mem_cons_self)
  rw[List.cons_append,BD,if_neg hc,Qb p s (fun hm=>h (List.mem_cons_of_mem _ hm))]
theorem Qc:∀(p:List UInt8),(32:UInt8)∉p→BD p=[p]
 |[],_=>rfl
 |c::p,h=>by
  have hc:¬c=32:=fun e=>h (by rw[e];exact List.mem_cons_self)
  rw[BD,if_neg hc,Qc p (fun hm=>h (List.mem_cons_of_mem _ hm))]
theorem N9:∀ps:List (List UInt8),ps≠[]→(∀p∈ps,(32:UInt8)∉p)→BD (BJ ps)=ps
 |[],h,_=>absurd rfl h
 |[p],_,h=>Qc p (h p (by simp))
 |p::q::r,_,h=>by
  rw[BJ,Qb p _ (h p (by simp)),N9 (q::r) (by simp) (fun x hx=>h x (List.mem_cons_of_mem _ hx))]
theorem OA:∀(ns:List Nat) (w:List UInt8),BJ (w::ns.map decB)=w++Ht ns
 |[],w=>by simp[BJ,Ht]
 |n::ns,w=>by rw[List.map_cons,BJ,OA ns (decB n)];simp[Ht]
theorem AGG (n:Nat):(32:UInt8)∉decB n:=fun h=>by have:=Ny n 32 h;simp[PL]at this
theorem Qd (s:List UInt8):(BD s).length≤s.length+1:=by
 have:=LM (BD s) (EK s) (Il s)
 rw[Dh]at this
 have h:s.count 32≤s.length:=List.count_le_length
 omega
theorem OB:∀(ps:List (List UInt8)) (p:List UInt8),p∈ps→p.length≤(BJ ps).length
 |[q],p,h=>by rw[List.mem_singleton.1 h];exact Nat.le_refl _
 |q::r::s,p,h=>by
  rw[BJ,List.length_append,List.length_cons]
  rcases List.mem_cons.1 h with rfl|h
  ·omega
  ·have:=OB (r::s) p h;omega
instance (c:UInt8):Decidable (PL c):=inferInstanceAs (Decidable (_∧_))
def D8 (x:List UInt8):Option Nat:=if x≠[]∧x.length≤9∧(∀c∈x,PL c)∧(1<x.length→x.head?≠some 48)then some (DY 0 x)else none
theorem OC {x:List UInt8} {n:Nat} (h:D8 x=some n):n<1000000000∧x=decB n:=by
 unfold D8 at h
 split at h
 ·rename_i hc
  obtain⟨h1,h2,h3,h4⟩:=hc
  cases h
  have:=Me x 0 h3
  have h5:10^x.length≤10^9:=Nat.pow_le_pow_right (by omega) h2
  exact⟨by omega,(ADm x.length x rfl h2 h1 h3 h4).symm⟩
 ·cases h
theorem Yp {n:Nat} (h:n<1000000000):D8 (decB n)=some n:=by
 unfold D8
 rw[if_pos ⟨Tt n,ABt h,Ny n,Ym h⟩,ABy h]
def CZ:List (List UInt8)→Option (List Nat)
 |[]=>some []
 |x::xs=>(D8 x).bind fun n=>(CZ xs).map (n::·)
theorem EU:∀{ps:List (List UInt8)} {ns:List Nat},CZ ps=some ns→(∀n∈ns,n<1000000000)∧ps=ns.map decB
 |[],ns,h=>by cases h;exact⟨by simp,rfl⟩
 |x::xs,ns,h=>by
  obtain⟨n,h1,h2⟩:=Option.bind_eq_some_iff.1 h
  obtain⟨ms,h3,rfl⟩:=Option.map_eq_some_iff.1 h2
  obtain⟨a1,a2⟩:=OC h1
  obtain⟨b1,b2⟩:=EU h3
  exact⟨fun m hm=>(List.mem_cons.1 hm).elim (fun e=>e▸a1) (b1 m),by rw[List.map_cons,←a2,←b2]⟩
theorem OD:∀{ns:List Nat},(∀n∈ns,n<1000000000)→CZ (ns.map decB)=some ns
 |[],_=>rfl
 |n::ns,h=>by
  rw[List.map_cons,CZ,Yp (h n List.mem_cons_self),OD (fun m hm=>h m (List.mem_cons_of_mem _ hm))];rfl
theorem Jd:∀{ps:List (List UInt8)} {x:List UInt8},x∈ps→D8 x=none→CZ ps=none
 |y::ys,x,h,e=>by
  rw[CZ]
  rcases List.mem_cons.1 h with rfl|h
  ·rw[e];rfl
  ·rw[Jd h e];cases D8 y<;>rfl
def Dt (w:List UInt8) (k:Nat) (s:List UInt8):Option (List Nat):=
 match BD s with
 |[]=>none
 |p::ps=>if p=w∧ps.length=k then CZ ps else none
theorem LP {w s:List UInt8} {k:Nat} {ns:List Nat} (h:Dt w k s=some ns):ns.length=k∧(∀n∈ns,n<1000000000)∧s=w++Ht ns:=by
 unfold Dt at h
 split at h
 ·cases h
 ·rename_i p ps e
  split at h
  ·rename_i hc
   obtain⟨rfl,rfl⟩:=hc
   obtain⟨h1,h2⟩:=EU h
   refine⟨by rw[h2];simp,h1,?_⟩
   rw[←Dh s,e,h2,OA]
  ·cases h
theorem ADr {w:List UInt8} (hw:(32:UInt8)∉w) {ns:List Nat} (h:∀n∈ns,n<1000000000):Dt w ns.length (w++Ht ns)=some ns:=by
 unfold Dt
 rw[←OA,N9 _ (by simp) (by
  intro p hp
  rcases List.mem_cons.1 hp with rfl|hp
  ·exact hw
  ·obtain⟨n,_,rfl⟩:=List.mem_map.1 hp
   exact AGG n)]
 simp only[List.length_map,and_self,if_true]
 exact OD h
def Ec (x:List UInt8):Option Int:=match Lib.atoiAll x with
 | .ok v=>if x.length≤9 then some v else none
 |_=>none
theorem Qe {n:Nat} (h:n<1000000000):Ec (decB n)=some (n:Int):=by
 unfold Ec
 rw[ABv h]
 exact if_pos (ABt h)
theorem Wh {x:List UInt8} (h:Ec x=none):D8 x=none:=by
 cases hn:D8 x with
 |none=>rfl
 |some n=>
  obtain⟨h1,rfl⟩:=OC hn
  rw[Qe h1]at h;cases h
theorem Uz {x:List UInt8} {v:Int} (h:Ec x=some v): -1000000000<v∧v<1000000000:=by
 unfold Ec at h
 split at h
 ·rename_i u e
  split at h
  ·cases h;exact ADl (by assumption) e
  ·cases h
 ·cases h
theorem J7:∀{a b:List Int},a.map some=b.map some→a=b
 |[],[],_=>rfl
 |[],_::_,h=>by cases h
 |_::_,[],h=>by cases h
 |x::xs,y::ys,h=>by
  simp only[List.map_cons,List.cons.injEq,Option.some.injEq]at h
  rw[h.1,J7 h.2]
theorem OE:∀l:List Int,(∀x∈l,0≤x)→(l.map Int.toNat).map (fun(n:Nat)=>(n:Int))=l
 |[],_=>rfl
 |x::l,h=>by
  have:=h x List.mem_cons_self
  rw[List.map_cons,List.map_cons,OE l (fun y hy=>h y (List.mem_cons_of_mem _ hy)),Int.toNat_of_nonneg this]
theorem AB4 {w s:List UInt8} (hw:(32:UInt8)∉w) {p:List UInt8} {ps:List (List UInt8)} (e:BD s=p::ps) {l:List Int} (hl:ps.map Ec=l.map some):
 ((Hr w l=s++[10]∧∀x∈l,0≤x)↔(Dt w ps.length s).isSome=true)∧∀ns,Dt w ps.length s=some ns→l=ns.map (fun(n:Nat)=>(n:Int)):=by
 have hll:ps.length=l.length:=by have:=congrArg List.length hl;simpa using this
 have h2:∀ns,Dt w ps.length s=some ns→l=ns.map (fun(n:Nat)=>(n:Int)):=by
  intro ns h
  unfold Dt at h
  rw[e]at h
  dsimp only at h
  split at h
  ·obtain⟨h1,h2⟩:=EU h
   refine J7 ?_
   rw[←hl,h2,List.map_map,List.map_map]
   exact List.map_congr_left fun n hn=>Qe (h1 n hn)
  ·cases h
 refine⟨⟨fun h=> ?_,fun h=> ?_⟩,h2⟩
 ·obtain⟨h3,h4⟩:=h
  have hn:=OE l h4
  generalize l.map Int.toNat=ns at hn
  subst hn
  rw[Hr,N8]at h3
  have h5:s=w++Ht ns:=(List.append_cancel_right h3).symm
  have hb:∀n∈ns,n<1000000000:=by
   intro n hn
   have hm:some (n:Int)∈ps.map Ec:=by rw[hl,List.map_map];exact List.mem_map.2 ⟨n,hn,rfl⟩
   obtain⟨x,_,hx⟩:=List.mem_map.1 hm
   have:=Uz hx;omega
  have h6:=ADr hw hb
  rw[←h5]at h6
  rw[hll,List.length_map,h6];rfl
 ·obtain⟨ns,h3⟩:=Option.isSome_iff_exists.1 h
  obtain⟨a1,a2,a3⟩:=LP h3
  rw[h2 ns h3]
  refine⟨by rw[Hr,N8,a3],fun x hx=> ?_⟩
  obtain⟨n,_,rfl⟩:=List.mem_map.1 hx
  omega
theorem X5 {e:TypeId} {f:Fl} {xs:List V} {i:Nat} {x:V} (h:xs[i]?=some x) (k:IntKind):D6 e (.lst e f xs) (.int k (i:Int))=some (.rop e x):=by rw[QU,h];rfl
theorem AB5 {l:List Int} {i:Nat} (h:i<l.length):(l.map fun(v:Int)=>V.int .i64 v)[i]?=some (.int .i64 l[i]):=by simp[h]
theorem AGH {l:List Int} (hl:l.length≤3000):∀(m i:Nat) (a:Int),i+m=l.length→∃r:Int,Rk (Hq .sh l) (.int .i64 a) (.int .i64 (i:Int))=some (.int .i64 r,[])∧(0≤r↔0≤a∧∀x∈l.drop i,0≤x):=by
 intro m
 induction m with
 |zero=>
  intro i a hi
  refine⟨a,?_,by rw[List.drop_eq_nil_of_le (by omega)];simp⟩
  rw[P5]
  (repeat' with_reducible first|refine(Af _ _).trans ?_|refine(Aa _ _).trans ?_|refine(AA _ _).trans ?_|refine(AB (by first|rfl|(simp(disch:=first|assumption|omega|(with_reducible rfl)|(simp only[go_sem];done)|(simp only[go_sem];omega)|fail) only[↓reduceIte,↓AA,Nat.reduceAdd,go_sem,Bool.not_true,Bool.not_false];rfl)) _).trans ?_|refine(if_pos (by first|rfl|(simp(disch:=first|assumption|omega|(with_reducible rfl)|(simp only[go_sem];done)|(simp only[go_sem];omega)|fail) only[↓reduceIte,↓AA,Nat.reduceAdd,go_sem,Bool.not_true,Bool.not_false];done))).trans ?_|refine(AQ (by first|assumption|omega|(simp(disch:=first|assumption|omega|(with_reducible rfl)|(simp only[go_sem];done)|(simp only[go_sem];omega)|fail) only[↓reduceIte,↓AA,Nat.reduceAdd,go_sem,Bool.not_true,Bool.not_false];done)|(simp(disch:=first|assumption|omega|(with_reducible rfl)|(simp only[go_sem];done)|(simp only[go_sem];omega)|fail) only[↓reduceIte,↓AA,Nat.reduceAdd,go_sem,Bool.not_true,Bool.not_false];omega)) _ _).trans ?_|refine(AO (by first|assumption|omega|(simp(disch:=first|assumption|omega|(with_reducible rfl)|(simp only[go_sem];done)|(simp only[go_sem];omega)|fail) only[↓reduceIte,↓AA,Nat.reduceAdd,go_sem,Bool.not_true,Bool.not_false];done)|(simp(disch:=first|assumption|omega|(with_reducible rfl)|(simp only[go_sem];done)|(simp only[go_sem];omega)|fail) only[↓reduceIte,↓AA,Nat.reduceAdd,go_sem,Bool.not_true,Bool.not_false];omega)) _ _).trans ?_|fail)
  rfl
 |succ m ih=>
  intro i a hi
  have h:i<l.length:=by omega
  have hx:=AB5 h
  obtain⟨r,e,e2⟩:=ih (i+1) (if l[i]<a then l[i]else a) (by omega)
  refine⟨r,?_,?_⟩
  ·have mv:PD (.int .i64 a) (.int .i64 l[i])=some (.int .i64 (if l[i]<a then l[i]else a)):=by
    simp only[PD,if_true]
   rw[←e,P5]
   clear e e2 ih
   generalize (if l[i]<a then l[i]else a)=b at*
   generalize l[i]=x at*
   (repeat' with_reducible first|refine(Af _ _).trans ?_|refine(Aa _ _).trans ?_|refine(AA _ _).trans ?_|refine(AB (by first|rfl|(simp(disch:=first|assumption|omega|(with_reducible rfl)|(simp only[go_sem];done)|(simp only[go_sem];omega)|fail) only[↓reduceIte,↓AA,Nat.reduceAdd,go_sem,Bool.not_true,Bool.not_false,hx,mv];rfl)) _).trans ?_|refine(if_pos (by first|rfl|(simp(disch:=first|assumption|omega|(with_reducible rfl)|(simp only[go_sem];done)|(simp only[go_sem];omega)|fail) only[↓reduceIte,↓AA,Nat.reduceAdd,go_sem,Bool.not_true,Bool.not_false,hx,mv];done))).trans ?_|refine(AQ (by first|assumption|omega|(simp(disch:=first|assumption|omega|(with_reducible rfl)|(simp only[go_sem];done)|(simp only[go_sem];omega)|fail) only[↓reduceIte,↓AA,Nat.reduceAdd,go_sem,Bool.not_true,Bool.not_false,hx,mv];done)|(simp(disch:=first|assumption|omega|(with_reducible rfl)|(simp only[go_sem];done)|(simp only[go_sem];omega)|fail) only[↓reduceIte,↓AA,Nat.reduceAdd,go_sem,Bool.not_true,Bool.not_false,hx,mv];omega)) _ _).trans ?_|refine(AO (by first|assumption|omega|(simp(disch:=first|assumption|omega|(with_reducible rfl)|(simp only[go_sem];done)|(simp only[go_sem];omega)|fail) only[↓reduceIte,↓AA,Nat.reduceAdd,go_sem,Bool.not_true,Bool.not_false,hx,mv];done)|(simp(disch:=first|assumption|omega|(with_reducible rfl)|(simp only[go_sem];done)|(simp only[go_sem];omega)|fail) only[↓reduceIte,↓AA,Nat.reduceAdd,go_sem,Bool.not_true,Bool.not_false,hx,mv];omega)) _ _).trans ?_|fail)
   rfl
  ·rw[e2,List.drop_eq_getElem_cons h,List.forall_mem_cons,←and_assoc]
   refine and_congr_left fun _=> ?_
   split<;>omega
theorem AGI {l:List Int} (hn:l≠[]) (hl:l.length≤3000):∃r:Int,Cl 48 [Hq .sh l] []=some (.int .i64 r,[])∧(0≤r↔∀x∈l,0≤x):=by
 have hp:=List.length_pos_iff.2 hn
 have hx:=AB5 hp
 obtain⟨r,e,e2⟩:=AGH hl (l.length-1) 1 l[0] (by omega)
 refine⟨r,?_,?_⟩
 ·have ix:D6 3 (.lst 3 .sh (l.map fun(v:Int)=>V.int .i64 v)) (.int .i64 0)=some (.rop 3 (.int .i64 l[0])):=by
   have:=X5 (e:=3) (f:= .sh) hx .i64
   exact this
  rw[←e,AFM]
  clear e e2
  generalize l[0]=x at*
  (repeat' with_reducible first|refine(Af _ _).trans ?_|refine(Aa _ _).trans ?_|refine(AA _ _).trans ?_|refine(AB (by first|rfl|(simp(disch:=first|assumption|omega|(with_reducible rfl)|(simp only[go_sem];done)|(simp only[go_sem];omega)|fail) only[↓reduceIte,↓AA,Nat.reduceAdd,go_sem,Bool.not_true,Bool.not_false,ix];rfl)) _).trans ?_|refine(if_pos (by first|rfl|(simp(disch:=first|assumption|omega|(with_reducible rfl)|(simp only[go_sem];done)|(simp only[go_sem];omega)|fail) only[↓reduceIte,↓AA,Nat.reduceAdd,go_sem,Bool.not_true,Bool.not_false,ix];done))).trans ?_|refine(AQ (by first|assumption|omega|(simp(disch:=first|assumption|omega|(with_reducible rfl)|(simp only[go_sem];done)|(simp only[go_sem];omega)|fail) only[↓reduceIte,↓AA,Nat.reduceAdd,go_sem,Bool.not_true,Bool.not_false,ix];done)|(simp(disch:=first|assumption|omega|(with_reducible rfl)|(simp only[go_sem];done)|(simp only[go_sem];omega)|fail) only[↓reduceIte,↓AA,Nat.reduceAdd,go_sem,Bool.not_true,Bool.not_false,ix];omega)) _ _).trans ?_|refine(AO (by first|assumption|omega|(simp(disch:=first|assumption|omega|(with_reducible rfl)|(simp only[go_sem];done)|(simp only[go_sem];omega)|fail) only[↓reduceIte,↓AA,Nat.reduceAdd,go_sem,Bool.not_true,Bool.not_false,ix];done)|(simp(disch:=first|assumption|omega|(with_reducible rfl)|(simp only[go_sem];done)|(simp only[go_sem];omega)|fail) only[↓reduceIte,↓AA,Nat.reduceAdd,go_sem,Bool.not_true,Bool.not_false,ix];omega)) _ _).trans ?_|fail)
  rfl
 ·rw[e2]
  have h0:∀x,x∈l↔x=l[0]∨x∈l.drop 1:=by
   intro x
   conv=>lhs;rw[←List.drop_zero (l:=l),List.drop_eq_getElem_cons hp]
   simp
  exact⟨fun h x hx=>((h0 x).1 hx).elim (fun e=>e▸h.1) (h.2 x),fun h=>⟨h _ (List.getElem_mem hp),fun x hx=>h x ((h0 x).2 (.inr hx))⟩⟩
end
section
open Go AM
@[go_sem] theorem AIC (l:List (List UInt8)):Kw (l.map V.str)=true:=Ef (fun _=>rfl) l
theorem AGJ {w s:List UInt8} (hw:w.length≤100) (h32:(32:UInt8)∉w) (hs:s.length≤2000) {p:List UInt8} {ps:List (List UInt8)} (he:BD s=p::ps) (hk:1≤ps.length) (hk2:ps.length≤100):∀(m i:Nat) (l:List Int),i+m=ps.length→(ps.take i).map Ec=l.map some→
 ∃is:List Int,Rh (.str s) (.str w) (Hq .own l) (.lst 9 .sh (ps.map V.str)) (.int .i64 (ps.length:Int)) (.int .i64 (i:Int)) []=some (.tup [Hq .sh is,.bool (Dt w ps.length s).isSome],[])∧∀ns,Dt w ps.length s=some ns→is=ns.map (fun(n:Nat)=>(n:Int)):=by
 intro m
 induction m with
 |zero=>
  intro i l hi hl
  rw[List.take_of_length_le (by omega)]at hl
  have hll:ps.length=l.length:=by have:=congrArg List.length hl;simpa using this
  obtain⟨k1,k2⟩:=AB4 h32 he hl
  refine⟨l,?_,k2⟩
  have hb:∀n∈l,-1000000000000000000≤n∧n≤1000000000000000000:=by
   intro n hn
   have hm:some n∈ps.map Ec:=by rw[hl];exact List.mem_map.2 ⟨n,hn,rfl⟩
   obtain⟨x,_,hx⟩:=List.mem_map.1 hm
   have:=Uz hx;omega
  have ln:=ABz (w:=w) (by omega) hb (by omega)
  obtain⟨r,mn,hr⟩:=AGI (l:=l) (by intro e;rw[e,List.length_nil]at hll;omega) (by omega)
  have a1:AL .add (.str s) (.str [10])=some (.str (s++[10])):=QS _ _ (by simp;omega)
  rw[IU]
  by_cases hq:Hr w l=s++[10]
  ·have e1:AL .eql (.str (Hr w l)) (.str (s++[10]))=some (.bool true):=by simp[AL,hq]
   have ge:AL .geq (.int .i64 r) (.int .i64 0)=some (.bool (Dt w ps.length s).isSome):=by
    rw[b_geq]
    congr 2
    rw[Bool.eq_iff_iff,decide_eq_true_eq,←k1,hr]
    exact⟨fun h=>⟨hq,h⟩,fun h=>h.2⟩
   clear k1 k2 hl hb
   generalize Hr w l=x at*
   generalize s++[10]=y at*
   generalize (Dt w ps.length s).isSome=b at*
   (repeat' with_reducible first|refine(Af _ _).trans ?_|refine(Aa _ _).trans ?_|refine(AA _ _).trans ?_|((first|(refine' (AB ?_ _).trans ?_;rotate_left)|refine(if_pos ?_).trans ?_|refine(AQ ?_ _ _).trans ?_);focus (first|rfl|(simp(disch:=first|assumption|omega|with_reducible rfl|(simp only[go_sem]<;>omega)|fail) only[↓reduceIte,↓AA,Nat.reduceAdd,go_sem,Bool.not_true,Bool.not_false,ln,mn,a1,e1,ge]<;>first|rfl|omega)|assumption|omega))|(refine(AO ?_ _ _).trans ?_;focus (first|(simp(disch:=first|assumption|omega|with_reducible rfl|(simp only[go_sem]<;>omega)|fail) only[↓reduceIte,↓AA,Nat.reduceAdd,go_sem,Bool.not_true,Bool.not_false,ln,mn,a1,e1,ge]<;>omega)|assumption|omega))|fail)
   rfl
  ·have e1:AL .eql (.str (Hr w l)) (.str (s++[10]))=some (.bool false):=by simp[AL,hq]
   have hn:(Dt w ps.length s).isSome=false:=by
    cases hh:(Dt w ps.length s).isSome with
    |false=>rfl
    |true=>exact absurd (k1.2 hh).1 hq
   rw[hn]
   clear k1 k2 hl hb hn
   generalize Hr w l=x at*
   generalize s++[10]=y at*
   (repeat' with_reducible first|refine(Af _ _).trans ?_|refine(Aa _ _).trans ?_|refine(AA _ _).trans ?_|((first|(refine' (AB ?_ _).trans ?_;rotate_left)|refine(if_pos ?_).trans ?_|refine(AQ ?_ _ _).trans ?_);focus (first|rfl|(simp(disch:=first|assumption|omega|with_reducible rfl|(simp only[go_sem]<;>omega)|fail) only[↓reduceIte,↓AA,Nat.reduceAdd,go_sem,Bool.not_true,Bool.not_false,ln,a1,e1]<;>first|rfl|omega)|assumption|omega))|(refine(AO ?_ _ _).trans ?_;focus (first|(simp(disch:=first|assumption|omega|with_reducible rfl|(simp only[go_sem]<;>omega)|fail) only[↓reduceIte,↓AA,Nat.reduceAdd,go_sem,Bool.not_true,Bool.not_false,ln,a1,e1]<;>omega)|assumption|omega))|fail)
   rfl
 |succ m ih=>
  intro i l hi hl
  have h:i<ps.length:=by omega
  have hx:(ps.map V.str)[i]?=some (.str ps[i]):=by simp[h]
  have hpl:ps[i].length≤2000:=by
   have:=OB (p::ps) ps[i] (List.mem_cons_of_mem _ (List.getElem_mem h))
   rw[←he,Dh]at this;omega
  have at':=ABw (s:=ps[i]) (by omega) []
  have hll:i=l.length:=by have:=congrArg List.length hl;simp at this;omega
  have bad:Ec ps[i]=none→(Dt w ps.length s)=none:=by
   intro hn
   unfold Dt
   rw[he]
   dsimp only
   split
   ·exact Jd (List.getElem_mem h) (Wh hn)
   ·rfl
  rcases Uw ps[i]with⟨v,h1,h2⟩|⟨n,h2⟩
  ·have nn:YR .neq .nili=some (.bool false):=rfl
   by_cases h9:ps[i].length≤9
   ·have ha:Ec ps[i]=some v:=by unfold Ec;rw[h1];exact if_pos h9
    obtain⟨is,e1,e2⟩:=ih (i+1) (l++[v]) (by omega) (by
     rw[←List.take_append_getElem h,List.map_append,hl,List.map_append,List.map_cons,List.map_nil,ha];rfl)
    refine⟨is,?_,e2⟩
    have gt:AL .gtr (.int .i64 (ps[i].length:Int)) (.int .i64 9)=some (.bool false):=by rw[b_gtr,decide_eq_false (by omega)]
    rw[Hq,List.map_append,List.map_cons,List.map_nil]at e1
    rw[←e1,IU]
    clear e1 e2 ih bad hl he
    rw[h2]at at'
    generalize ps[i]=d at*
    (repeat' with_reducible first|refine(Af _ _).trans ?_|refine(Aa _ _).trans ?_|refine(AA _ _).trans ?_|((first|(refine' (AB ?_ _).trans ?_;rotate_left)|refine(if_pos ?_).trans ?_|refine(AQ ?_ _ _).trans ?_);focus (first|rfl|(simp(disch:=first|assumption|omega|with_reducible rfl|(simp only[go_sem]<;>omega)|fail) only[↓reduceIte,↓AA,Nat.reduceAdd,go_sem,Bool.not_true,Bool.not_false,hx,at',gt,nn]<;>first|rfl|omega)|assumption|omega))|(refine(AO ?_ _ _).trans ?_;focus (first|(simp(disch:=first|assumption|omega|with_reducible rfl|(simp only[go_sem]<;>omega)|fail) only[↓reduceIte,↓AA,Nat.reduceAdd,go_sem,Bool.not_true,Bool.not_false,hx,at',gt,nn]<;>omega)|assumption|omega))|fail)
    rfl
   ·have ha:Ec ps[i]=none:=by unfold Ec;rw[h1];exact if_neg h9
    have gt:AL .gtr (.int .i64 (ps[i].length:Int)) (.int .i64 9)=some (.bool true):=by rw[b_gtr,decide_eq_true (by omega)]
    rw[bad ha]
    refine⟨[],?_,fun ns h=>by cases h⟩
    rw[IU]
    clear ih bad hl he
    rw[h2]at at'
    generalize ps[i]=d at*
    (repeat' with_reducible first|refine(Af _ _).trans ?_|refine(Aa _ _).trans ?_|refine(AA _ _).trans ?_|((first|(refine' (AB ?_ _).trans ?_;rotate_left)|refine(if_pos ?_).trans ?_|refine(AQ ?_ _ _).trans ?_);focus (first|rfl|(simp(disch:=first|assumption|omega|with_reducible rfl|(simp only[go_sem]<;>omega)|fail) only[↓reduceIte,↓AA,Nat.reduceAdd,go_sem,Bool.not_true,Bool.not_false,hx,at',gt,nn]<;>first|rfl|omega)|assumption|omega))|(refine(AO ?_ _ _).trans ?_;focus (first|(simp(disch:=first|assumption|omega|with_reducible rfl|(simp only[go_sem]<;>omega)|fail) only[↓reduceIte,↓AA,Nat.reduceAdd,go_sem,Bool.not_true,Bool.not_false,hx,at',gt,nn]<;>omega)|assumption|omega))|fail)
    rfl
  ·have nn:YR .neq .ifv=some (.bool true):=rfl
   have ha:Ec ps[i]=none:=by
    unfold Ec
    unfold Lm at h2
    split at h2
    ·cases h2
    ·rename_i e;rw[e]
    ·rename_i e;rw[e]
   rw[bad ha]
   refine⟨[],?_,fun ns h=>by cases h⟩
   rw[IU]
   clear ih bad hl he
   rw[h2]at at'
   generalize ps[i]=d at*
   (repeat' with_reducible first|refine(Af _ _).trans ?_|refine(Aa _ _).trans ?_|refine(AA _ _).trans ?_|((first|(refine' (AB ?_ _).trans ?_;rotate_left)|refine(if_pos ?_).trans ?_|refine(AQ ?_ _ _).trans ?_);focus (first|rfl|(simp(disch:=first|assumption|omega|with_reducible rfl|(simp only[go_sem]<;>omega)|fail) only[↓reduceIte,↓AA,Nat.reduceAdd,go_sem,Bool.not_true,Bool.not_false,hx,at',nn]<;>first|rfl|omega)|assumption|omega))|(refine(AO ?_ _ _).trans ?_;focus (first|(simp(disch:=first|assumption|omega|with_reducible rfl|(simp only[go_sem]<;>omega)|fail) only[↓reduceIte,↓AA,Nat.reduceAdd,go_sem,Bool.not_true,Bool.not_false,hx,at',nn]<;>omega)|assumption|omega))|fail)
   rfl
theorem Gi {w s:List UInt8} (hw:w.length≤100) (h32:(32:UInt8)∉w) (hs:s.length≤2000) {k:Nat} (hk:1≤k) (hk2:k≤100):
 ∃is:List Int,Cl 36 [.str s,.str w,.int .i64 (k:Int)] []=some (.tup [Hq .sh is,.bool (Dt w k s).isSome],[])∧∀ns,Dt w k s=some ns→is=ns.map (fun(n:Nat)=>(n:Int)):=by
 have sl:=Qd s
 have sp:=AB3 (EK s) (Il s) (by rw[Dh];omega)
 obtain⟨p,ps,he⟩:∃p ps,BD s=p::ps:=by
  have:=EK s
  match BD s,this with
  |p::ps,_=>exact⟨p,ps,rfl⟩
 rw[Dh,he]at sp
 rw[he,List.length_cons]at sl
 have sp:=sp (by rw[List.length_cons];omega)
 have a1:AL .add (.int .i64 1) (.int .i64 (k:Int))=some (.int .i64 ((k+1:Nat):Int)):=by
  rw[DZ,Ad (by omega) (by omega)];congr 2;omega
 have l1:Jr (V.weak (.lst 9 .sh ((p::ps).map V.str)))=some (.int .i64 ((ps.length+1:Nat):Int)):=by
  have:((p::ps).map V.str).length=ps.length+1:=by simp
  rw[←this];rfl
 by_cases hc:ps.length=k
 ·subst hc
  have ne:AL .neq (.int .i64 ((ps.length+1:Nat):Int)) (.int .i64 ((ps.length+1:Nat):Int))=some (.bool false):=by rw[b_neq];simp
  obtain⟨is,h0,h1⟩:=AGJ hw h32 hs he hk hk2 ps.length 0 [] (by omega) rfl
  refine⟨is,?_,h1⟩
  have sl3:Zc 9 (.lst 9 .sh ((p::ps).map V.str)) (some (.int .i64 1)) none none=some (.lst 9 .sh (ps.map V.str)):=by
   have:=AFu (xs:=(p::ps).map V.str) (i:=1) (by simp) 9 .sh .i64
   exact this
  have l2:Jr (.lst 9 .sh (ps.map V.str))=some (.int .i64 (ps.length:Int)):=by
   have:(ps.map V.str).length=ps.length:=by simp
   rw[←this];rfl
  rw[Hq,List.map_nil]at h0
  rw[←h0,Z5]
  clear h0 h1
  generalize (p::ps).map V.str=D at*
  generalize ps.map V.str=E at*
  generalize ps.length=n at*
  refine(AB sp _).trans ?_
  refine(AB l1 _).trans ?_
  refine(AB a1 _).trans ?_
  refine(AB ne _).trans ?_
  rw[Aa]
  refine(AB sl3 _).trans ?_
  refine(AB l2 _).trans ?_
  rfl
 ·have ne:AL .neq (.int .i64 ((ps.length+1:Nat):Int)) (.int .i64 ((k+1:Nat):Int))=some (.bool true):=by
   rw[b_neq];simp;omega
  have hn:Dt w k s=none:=by
   unfold Dt
   rw[he]
   exact if_neg fun h=>hc h.2
  rw[hn]
  refine⟨[],?_,fun ns h=>by cases h⟩
  rw[Z5]
  generalize (p::ps).map V.str=D at*
  generalize ps.length=n at*
  refine(AB sp _).trans ?_
  refine(AB l1 _).trans ?_
  refine(AB a1 _).trans ?_
  refine(AB ne _).trans ?_
  rw[Af]
  rfl
end
section
open Go AM
theorem Yq (g:Grf):(Gu g).es.length≤g.es.length:=by
 rw[Gu];split
 ·simp only[ABr];exact Nat.le_refl _
 ·exact Nat.zero_le _
end
section
open Go AM
abbrev kE (e:E0):Int×Int:=(e.fr,e.to)
theorem AB6 (es:List E0) {i:Nat} (h:i<es.length):((es.take (i+1)).map kE).Nodup↔((es.take i).map kE).Nodup∧(es.take i).any (fun x=>decide (kE x=kE es[i]))=false:=by
 rw[List.take_add_one,List.getElem?_eq_getElem h,Option.toList_some,List.map_append,List.nodup_append]
 simp only[List.map_cons,List.map_nil,List.nodup_cons,List.not_mem_nil,not_false_eq_true,List.nodup_nil,and_self,true_and,List.mem_cons,or_false]
 refine and_congr_right fun _=> ?_
 rw[List.any_eq_false]
 constructor
 ·intro h x hx;simp only[decide_eq_true_eq];exact fun e=>h (kE x) (List.mem_map_of_mem hx) _ rfl e
 ·rintro h a ha b rfl e
  obtain⟨x,hx,rfl⟩:=List.mem_map.1 ha
  exact h x hx (decide_eq_true e)
theorem AID {g:Grf} (hl:g.es.length<1000000) {i:Nat} (hi:i<g.es.length):∀(n k:Nat) (b:Bool),k+n=i→
 RI rG (.bool b) (.int .i64 (i:Int)) (.ref 1 [] 45) (.int .i64 (k:Int)) 1 [vG .sh g,GK g.es[i]]=
  NJ rG (.bool (b||((g.es.take i).drop k).any (fun x=>decide (kE x=kE g.es[i])))) (.int .i64 ((i+1:Nat):Int)) [vG .sh g]:=by
 intro n
 induction n with
 |zero=>
  intro k b hk
  rw[List.drop_eq_nil_of_le (by simp;omega),List.any_nil,Bool.or_false,Pn]
  simp(disch:=first|assumption|omega|(with_reducible rfl)|(simp only[go_sem];done)|(simp only[go_sem];omega)|fail) only[↓reduceIte,↓AA,Nat.reduceAdd,go_sem]
 |succ n ih=>
  intro k b hk
  have hk2:k<g.es.length:=by omega
  have hx:=QV hk2
  have hlen:k<(g.es.take i).length:=by simp;omega
  have hd:(g.es.take i).drop k=g.es[k]::(g.es.take i).drop (k+1):=by
   rw[List.drop_eq_getElem_cons hlen,List.getElem_take]
  rw[hd,List.any_cons,Pn]
  cases b with
  |true=>
   have:=ih (k+1) true (by omega)
   rw[Bool.true_or]at this⊢
   rw[←this]
   simp(disch:=first|assumption|omega|(with_reducible rfl)|(simp only[go_sem];done)|(simp only[go_sem];omega)|fail) only[↓reduceIte,↓AA,Nat.reduceAdd,go_sem]
  |false=>
   rw[Bool.false_or]
   by_cases h1:g.es[k].fr=g.es[i].fr
   ·by_cases h2:g.es[k].to=g.es[i].to
    ·have:=ih (k+1) true (by omega)
     rw[Bool.true_or]at this
     rw[decide_eq_true (show kE g.es[k]=kE g.es[i]by rw[kE,h1,h2]),Bool.true_or,←this]
     generalize hek:g.es[k]=a at*
     generalize hei:g.es[i]=c at*
     simp only[GK]at hx⊢
     simp(disch:=first|assumption|omega|(with_reducible rfl)|(simp only[go_sem];done)|(simp only[go_sem];omega)|fail) only[↓reduceIte,↓AA,Nat.reduceAdd,go_sem,hx,h1,h2,decide_true]
    ·have:=ih (k+1) false (by omega)
     rw[Bool.false_or]at this
     rw[decide_eq_false (show ¬kE g.es[k]=kE g.es[i]from fun e=>h2 (Prod.mk.inj e).2),Bool.false_or,←this]
     generalize hek:g.es[k]=a at*
     generalize hei:g.es[i]=c at*
     simp only[GK]at hx⊢
     simp(disch:=first|assumption|omega|(with_reducible rfl)|(simp only[go_sem];done)|(simp only[go_sem];omega)|fail) only[↓reduceIte,↓AA,Nat.reduceAdd,go_sem,hx,h1,decide_eq_false h2]
   ·have:=ih (k+1) false (by omega)
    rw[Bool.false_or]at this
    rw[decide_eq_false (show ¬kE g.es[k]=kE g.es[i]from fun e=>h1 (Prod.mk.inj e).1),Bool.false_or,←this]
    generalize hek:g.es[k]=a at*
    generalize hei:g.es[i]=c at*
    simp only[GK]at hx⊢
    simp(disch:=first|assumption|omega|(with_reducible rfl)|(simp only[go_sem];done)|(simp only[go_sem];omega)|fail) only[↓reduceIte,↓AA,Nat.reduceAdd,go_sem,hx]
def r5 (g:Grf) (i:Nat):Int:=if(g.es.drop i).any (Eb g.n)=true then 50 else if(g.es.map kE).Nodup then 0 else 51
theorem AIE {g:Grf} (hl:g.es.length<1000000):∀(n i:Nat) (b:Bool),i+n=g.es.length→b= !decide ((g.es.take i).map kE).Nodup→
 NJ rG (.bool b) (.int .i64 (i:Int)) [vG .sh g]=some (.int .i64 (r5 g i),[]):=by
 intro n
 induction n with
 |zero=>
  intro i b hi hb
  rw[List.take_of_length_le (by omega)]at hb
  rw[r5,List.drop_eq_nil_of_le (by omega),List.any_nil,Po]
  by_cases hn:(g.es.map kE).Nodup
  ·rw[decide_eq_true hn]at hb
   subst hb
   rw[if_pos hn]
   simp(disch:=first|assumption|omega|(with_reducible rfl)|(simp only[go_sem];done)|(simp only[go_sem];omega)|fail) only[↓reduceIte,↓AA,Nat.reduceAdd,go_sem]
   rfl
  ·rw[decide_eq_false hn]at hb
   subst hb
   rw[if_neg hn]
   simp(disch:=first|assumption|omega|(with_reducible rfl)|(simp only[go_sem];done)|(simp only[go_sem];omega)|fail) only[↓reduceIte,↓AA,Nat.reduceAdd,go_sem]
   rfl
 |succ n ih=>
  intro i b hi hb
  have h:i<g.es.length:=by omega
  have hx:=QV h
  have l2:=AID hl h i 0 b (by omega)
  rw[List.drop_zero]at l2
  have hk:=AB6 g.es h
  have ih':=ih (i+1) (b||(g.es.take i).any (fun x=>decide (kE x=kE g.es[i]))) (by omega) (by
   subst hb
   rw[Bool.eq_iff_iff]
   by_cases p:((g.es.take i).map kE).Nodup<;>cases q:(g.es.take i).any (fun x=>decide (kE x=kE g.es[i]))<;>simp_all)
  rw[ih']at l2
  have hbad:Eb g.n g.es[i]=true→r5 g i=50:=fun ho=>by rw[r5,List.drop_eq_getElem_cons h,List.any_cons,ho];rfl
  have hok:Eb g.n g.es[i]=false→r5 g i=r5 g (i+1):=fun ho=>by rw[r5,r5,List.drop_eq_getElem_cons h,List.any_cons,ho];rfl
  generalize r5 g i=r at*
  generalize r5 g (i+1)=r' at*
  generalize he:g.es[i]=e at*
  rw[Po]
  simp only[GK,c0]at hx l2
  repeat' first|rfl|refine AHo (fun _=> ?_) (fun _=> ?_)|refine AHp (fun _=> ?_) (fun _=> ?_)|simp(disch:=first|assumption|omega|(with_reducible rfl)|(simp only[go_sem];done)|(simp only[go_sem];omega)|fail) only[↓reduceIte,↓AA,Nat.reduceAdd,go_sem,hx,l2]
  all_goals simp only[Eb]at hbad hok
  all_goals simp_all
  all_goals omega
theorem ADs {g:Grf} (hl:g.es.length<1000000):Cl 11 [vG .sh g] []=some (.int .i64 (EJ g),[]):=by
 have h:=AIE hl g.es.length 0 false (by omega) (by simp)
 simp only[c0]at h
 have e:∀(a:1≤g.n) (b:g.n≤64) (c:g.es.length≤512),EJ g=r5 g 0:=by
  intro a b c
  rw[EJ,r5,List.drop_zero]
  by_cases ho:g.es.any (Eb g.n)=true
  ·rw[if_neg (fun h=>by rw[ho]at h;cases h.2.2.2),if_pos ho]
  ·rw[if_pos ⟨a,b,c,by simpa using ho⟩,if_neg ho]
 by_cases h1:g.n<1
 ·rw[EJ,if_neg (by omega),RJ]
  simp(disch:=first|assumption|omega|(with_reducible rfl)|(simp only[go_sem];done)|(simp only[go_sem];omega)|fail) only[↓reduceIte,↓AA,Nat.reduceAdd,go_sem]
 by_cases h2:64<g.n
 ·rw[EJ,if_neg (by omega),RJ]
  simp(disch:=first|assumption|omega|(with_reducible rfl)|(simp only[go_sem];done)|(simp only[go_sem];omega)|fail) only[↓reduceIte,↓AA,Nat.reduceAdd,go_sem]
 by_cases h3:512<g.es.length
 ·rw[EJ,if_neg (by omega),RJ]
  simp(disch:=first|assumption|omega|(with_reducible rfl)|(simp only[go_sem];done)|(simp only[go_sem];omega)|fail) only[↓reduceIte,↓AA,Nat.reduceAdd,go_sem]
 rw[e (by omega) (by omega) (by omega),RJ]
 simp(disch:=first|assumption|omega|(with_reducible rfl)|(simp only[go_sem];done)|(simp only[go_sem];omega)|fail) only[↓reduceIte,↓AA,Nat.reduceAdd,go_sem,h]
end
section
open Go AM
abbrev lE' (f:Fl) (l:List E0):V:= .lst 45 f (l.map GK)
theorem AJx (e:E0):Ll (GK e) (GK e)=some true:=by simp[GK,Ll,NF]
theorem neE (e:E0):eqT (Gy tE) .neq (GK e) (GK e)=some (.bool false):=by
 simp[eqT,AJx,ADb]
theorem AGK {l:List E0} (hl:l.length<1000000):∀(n i:Nat),i+n=l.length→RN (lE' .sh l) (lE' .sh l) (.int .i64 (i:Int))=some (.bool true,[]):=by
 intro n
 induction n with
 |zero=>
  intro i hi
  rw[Px]
  (repeat' with_reducible first|refine(Af _ _).trans ?_|refine(Aa _ _).trans ?_|refine(AA _ _).trans ?_|refine(AB (by first|rfl|(simp(disch:=first|assumption|omega|(with_reducible rfl)|(simp only[go_sem];done)|(simp only[go_sem];omega)|fail) only[↓reduceIte,↓AA,Nat.reduceAdd,go_sem,Bool.not_true,Bool.not_false];rfl)) _).trans ?_|refine(if_pos (by first|rfl|(simp(disch:=first|assumption|omega|(with_reducible rfl)|(simp only[go_sem];done)|(simp only[go_sem];omega)|fail) only[↓reduceIte,↓AA,Nat.reduceAdd,go_sem,Bool.not_true,Bool.not_false];done))).trans ?_|refine(AQ (by first|assumption|omega|(simp(disch:=first|assumption|omega|(with_reducible rfl)|(simp only[go_sem];done)|(simp only[go_sem];omega)|fail) only[↓reduceIte,↓AA,Nat.reduceAdd,go_sem,Bool.not_true,Bool.not_false];done)|(simp(disch:=first|assumption|omega|(with_reducible rfl)|(simp only[go_sem];done)|(simp only[go_sem];omega)|fail) only[↓reduceIte,↓AA,Nat.reduceAdd,go_sem,Bool.not_true,Bool.not_false];omega)) _ _).trans ?_|refine(AO (by first|assumption|omega|(simp(disch:=first|assumption|omega|(with_reducible rfl)|(simp only[go_sem];done)|(simp only[go_sem];omega)|fail) only[↓reduceIte,↓AA,Nat.reduceAdd,go_sem,Bool.not_true,Bool.not_false];done)|(simp(disch:=first|assumption|omega|(with_reducible rfl)|(simp only[go_sem];done)|(simp only[go_sem];omega)|fail) only[↓reduceIte,↓AA,Nat.reduceAdd,go_sem,Bool.not_true,Bool.not_false];omega)) _ _).trans ?_|fail)
  rfl
 |succ n ih=>
  intro i hi
  have h:i<l.length:=by omega
  have hx:=QV h
  have hne:=neE l[i]
  rw[←ih (i+1) (by omega),Px]
  clear ih
  generalize GK l[i]=y at*
  (repeat' with_reducible first|refine(Af _ _).trans ?_|refine(Aa _ _).trans ?_|refine(AA _ _).trans ?_|refine(AB (by first|rfl|(simp(disch:=first|assumption|omega|(with_reducible rfl)|(simp only[go_sem];done)|(simp only[go_sem];omega)|fail) only[↓reduceIte,↓AA,Nat.reduceAdd,go_sem,Bool.not_true,Bool.not_false,hx,hne];rfl)) _).trans ?_|refine(if_pos (by first|rfl|(simp(disch:=first|assumption|omega|(with_reducible rfl)|(simp only[go_sem];done)|(simp only[go_sem];omega)|fail) only[↓reduceIte,↓AA,Nat.reduceAdd,go_sem,Bool.not_true,Bool.not_false,hx,hne];done))).trans ?_|refine(AQ (by first|assumption|omega|(simp(disch:=first|assumption|omega|(with_reducible rfl)|(simp only[go_sem];done)|(simp only[go_sem];omega)|fail) only[↓reduceIte,↓AA,Nat.reduceAdd,go_sem,Bool.not_true,Bool.not_false,hx,hne];done)|(simp(disch:=first|assumption|omega|(with_reducible rfl)|(simp only[go_sem];done)|(simp only[go_sem];omega)|fail) only[↓reduceIte,↓AA,Nat.reduceAdd,go_sem,Bool.not_true,Bool.not_false,hx,hne];omega)) _ _).trans ?_|refine(AO (by first|assumption|omega|(simp(disch:=first|assumption|omega|(with_reducible rfl)|(simp only[go_sem];done)|(simp only[go_sem];omega)|fail) only[↓reduceIte,↓AA,Nat.reduceAdd,go_sem,Bool.not_true,Bool.not_false,hx,hne];done)|(simp(disch:=first|assumption|omega|(with_reducible rfl)|(simp only[go_sem];done)|(simp only[go_sem];omega)|fail) only[↓reduceIte,↓AA,Nat.reduceAdd,go_sem,Bool.not_true,Bool.not_false,hx,hne];omega)) _ _).trans ?_|fail)
  rfl
theorem ADt {l:List E0} (hl:l.length<1000000):Cl 19 [lE' .sh l,lE' .sh l] []=some (.bool true,[]):=by
 have h:=AGK hl l.length 0 (by omega)
 simp only[c0]at h
 rw[←h,AFC]
 (repeat' with_reducible first|refine(Af _ _).trans ?_|refine(Aa _ _).trans ?_|refine(AA _ _).trans ?_|refine(AB (by first|rfl|(simp(disch:=first|assumption|omega|(with_reducible rfl)|(simp only[go_sem];done)|(simp only[go_sem];omega)|fail) only[↓reduceIte,↓AA,Nat.reduceAdd,go_sem,Bool.not_true,Bool.not_false];rfl)) _).trans ?_|refine(if_pos (by first|rfl|(simp(disch:=first|assumption|omega|(with_reducible rfl)|(simp only[go_sem];done)|(simp only[go_sem];omega)|fail) only[↓reduceIte,↓AA,Nat.reduceAdd,go_sem,Bool.not_true,Bool.not_false];done))).trans ?_|refine(AQ (by first|assumption|omega|(simp(disch:=first|assumption|omega|(with_reducible rfl)|(simp only[go_sem];done)|(simp only[go_sem];omega)|fail) only[↓reduceIte,↓AA,Nat.reduceAdd,go_sem,Bool.not_true,Bool.not_false];done)|(simp(disch:=first|assumption|omega|(with_reducible rfl)|(simp only[go_sem];done)|(simp only[go_sem];omega)|fail) only[↓reduceIte,↓AA,Nat.reduceAdd,go_sem,Bool.not_true,Bool.not_false];omega)) _ _).trans ?_|refine(AO (by first|assumption|omega|(simp(disch:=first|assumption|omega|(with_reducible rfl)|(simp only[go_sem];done)|(simp only[go_sem];omega)|fail) only[↓reduceIte,↓AA,Nat.reduceAdd,go_sem,Bool.not_true,Bool.not_false];done)|(simp(disch:=first|assumption|omega|(with_reducible rfl)|(simp only[go_sem];done)|(simp only[go_sem];omega)|fail) only[↓reduceIte,↓AA,Nat.reduceAdd,go_sem,Bool.not_true,Bool.not_false];omega)) _ _).trans ?_|fail)
 rfl
theorem AB7 {g:Grf} (hl:g.es.length<1000000):Cl 15 [vG .sh g,vG .sh g] []=some (.bool true,[]):=by
 have h:=ADt hl
 rw[AFA]
 (repeat' with_reducible first|refine(Af _ _).trans ?_|refine(Aa _ _).trans ?_|refine(AA _ _).trans ?_|refine(AB (by first|rfl|(simp(disch:=first|assumption|omega|(with_reducible rfl)|(simp only[go_sem];done)|(simp only[go_sem];omega)|fail) only[↓reduceIte,↓AA,Nat.reduceAdd,go_sem,Bool.not_true,Bool.not_false,h];rfl)) _).trans ?_|refine(if_pos (by first|rfl|(simp(disch:=first|assumption|omega|(with_reducible rfl)|(simp only[go_sem];done)|(simp only[go_sem];omega)|fail) only[↓reduceIte,↓AA,Nat.reduceAdd,go_sem,Bool.not_true,Bool.not_false,h];done))).trans ?_|refine(AQ (by first|assumption|omega|(simp(disch:=first|assumption|omega|(with_reducible rfl)|(simp only[go_sem];done)|(simp only[go_sem];omega)|fail) only[↓reduceIte,↓AA,Nat.reduceAdd,go_sem,Bool.not_true,Bool.not_false,h];done)|(simp(disch:=first|assumption|omega|(with_reducible rfl)|(simp only[go_sem];done)|(simp only[go_sem];omega)|fail) only[↓reduceIte,↓AA,Nat.reduceAdd,go_sem,Bool.not_true,Bool.not_false,h];omega)) _ _).trans ?_|refine(AO (by first|assumption|omega|(simp(disch:=first|assumption|omega|(with_reducible rfl)|(simp only[go_sem];done)|(simp only[go_sem];omega)|fail) only[↓reduceIte,↓AA,Nat.reduceAdd,go_sem,Bool.not_true,Bool.not_false,h];done)|(simp(disch:=first|assumption|omega|(with_reducible rfl)|(simp only[go_sem];done)|(simp only[go_sem];omega)|fail) only[↓reduceIte,↓AA,Nat.reduceAdd,go_sem,Bool.not_true,Bool.not_false,h];omega)) _ _).trans ?_|fail)
 rfl
def OG (v w:Int) (e:E0):Bool:=decide (e.fr=v)&&decide (e.to=w)
def Gz (es:List E0) (v:Int) (m:Nat):List E0:=(List.range m).flatMap fun(w:Nat)=>es.filter (OG v (w:Int))
def Hu (es:List E0) (N m:Nat):List E0:=(List.range m).flatMap fun(v:Nat)=>Gz es (v:Int) N
theorem LQ (es:List E0) (v:Int) (m:Nat):Gz es v (m+1)=Gz es v m++es.filter (OG v (m:Int)):=by simp[Gz,List.range_succ]
theorem LU (es:List E0) (N m:Nat):Hu es N (m+1)=Hu es N m++Gz es (m:Int) N:=by simp[Hu,List.range_succ]
theorem OH {es:List E0} {v:Int} {m:Nat} {x:E0}:x∈Gz es v m↔x∈es∧x.fr=v∧0≤x.to∧x.to<m:=by
 simp only[Gz,List.mem_flatMap,List.mem_range,List.mem_filter,OG,Bool.and_eq_true,decide_eq_true_eq]
 constructor
 ·rintro ⟨w,hw,h1,h2,h3⟩;exact⟨h1,h2,by omega,by omega⟩
 ·rintro ⟨h1,h2,h3,h4⟩;exact⟨x.to.toNat,by omega,h1,h2,by omega⟩
theorem U0 {es:List E0} {N m:Nat} {x:E0}:x∈Hu es N m↔x∈es∧0≤x.fr∧x.fr<m∧0≤x.to∧x.to<N:=by
 simp only[Hu,List.mem_flatMap,List.mem_range,OH]
 constructor
 ·rintro ⟨v,hv,h1,h2,h3,h4⟩;exact⟨h1,by omega,by omega,h3,h4⟩
 ·rintro ⟨h1,h2,h3,h4,h5⟩;exact⟨x.fr.toNat,by omega,h1,by omega,h4,h5⟩
theorem U1 {es:List E0} (hn:(es.map kEd).Nodup) (v w:Int):(es.filter (OG v w)).Pairwise WW:=by
 rw[List.pairwise_filter]
 rw[List.nodup_iff_pairwise_ne,List.pairwise_map]at hn
 refine hn.imp fun{a b} h ha hb=> ?_
 simp only[OG,Bool.and_eq_true,decide_eq_true_eq]at ha hb
 exact absurd (Prod.ext (show(kEd a).1=(kEd b).1 by simp only[];omega) (by simp only[];omega)) h
theorem L8 {es:List E0} (hn:(es.map kEd).Nodup) (v:Int):∀m,(Gz es v m).Pairwise WW
 |0=>by simp[Gz]
 |m+1=>by
  rw[LQ,List.pairwise_append]
  refine⟨L8 hn v m,U1 hn v _,fun a ha b hb=> ?_⟩
  have h1:=OH.1 ha
  have h2:=(List.mem_filter.1 hb).2
  simp only[OG,Bool.and_eq_true,decide_eq_true_eq]at h2
  simp only[WW];omega
theorem L9 {es:List E0} (hn:(es.map kEd).Nodup) (N:Nat):∀m,(Hu es N m).Pairwise WW
 |0=>by simp[Hu]
 |m+1=>by
  rw[LU,List.pairwise_append]
  refine⟨L9 hn N m,L8 hn _ N,fun a ha b hb=> ?_⟩
  have h1:=U0.1 ha
  have h2:=OH.1 hb
  simp only[WW];omega
theorem AB8 {g:Grf} (hc:EJ g=0):Hu g.es g.n.toNat g.n.toNat=LK g.es:=by
 obtain⟨hp,hs⟩:=AGD hc
 obtain⟨⟨g1,g2⟩,g3,g4,g5⟩:=Tq hc
 refine AEp (L9 g5 _ _) hs fun x=> ?_
 rw[U0,hp.mem_iff]
 refine⟨fun h=>h.1,fun h=> ?_⟩
 have:=X0 g4 x h
 exact⟨h,by omega,by omega,by omega,by omega⟩
theorem OI (es:List E0) (v:Int):∀m,(Gz es v m).length≤m*es.length
 |0=>by simp[Gz]
 |m+1=>by
  have:=OI es v m
  have:=List.length_filter_le (OG v (m:Int)) es
  rw[LQ,List.length_append,Nat.succ_mul];omega
theorem U2 (es:List E0) (N:Nat):∀m,(Hu es N m).length≤m*(N*es.length)
 |0=>by simp[Hu]
 |m+1=>by
  have:=U2 es N m
  have:=OI es (m:Int) N
  rw[LU,List.length_append,Nat.succ_mul];omega
theorem OJ {h:List V} {id i:Nat} {u e t:TypeId} {f:Fl} {fs xs:List V} (hh:h[id]?=some (.agg u fs)) (hf:fs[i]?=some (.lst e f xs)):CX h t (.ref id [i] t)=some (.lst e f xs,h.set id (.agg u (fs.set i (.lst e f.wk xs)))):=by
 simp only[CX,if_true,rd,wr,hh,Option.bind_some,V.at,V.upd,hf,YX,Option.map_some]
abbrev Yr (g:Grf) (f:Fl) (l:List E0):List V:=[vG .sh g,.agg 23 [.int .i64 0,.lst 45 .nil []],.agg 23 [.int .i64 g.n,.lst 45 f (l.map GK)]]
theorem AIF {g:Grf} (hl:g.es.length<1000000) {v w:Int} (m0 m2:Nat):∀(n i:Nat) (f:Fl) (acc:List E0),(f= .own∨f= .nil)→i+n=g.es.length→acc.length+n≤2147483000→
 ∃f',(f'= .own∨f'= .nil)∧NR (.ref 0 [] 24) (.ref 1 [] 24) (.ref 2 [] 24) (.int .i64 v) (.int .i64 w) (.int .i64 (i:Int)) m0 m2 (Yr g f acc)=
  (AL .add (.int .i64 w) (.int .i64 1)).bind fun t=>NQ (.ref 0 [] 24) (.ref 1 [] 24) (.ref 2 [] 24) (.int .i64 v) t m0 (Yr g f' (acc++(g.es.drop i).filter (OG v w))):=by
 intro n
 induction n with
 |zero=>
  intro i f acc hf hi ha
  refine⟨f,hf,?_⟩
  rw[List.drop_eq_nil_of_le (by omega),List.filter_nil,List.append_nil,Ko]
  generalize AL .add (.int .i64 w) (.int .i64 1)=x at*
  rcases hf with rfl|rfl
  all_goals (repeat' with_reducible first|refine(Af _ _).trans ?_|refine(Aa _ _).trans ?_|refine(AA _ _).trans ?_|refine(AB (by first|rfl|(simp(disch:=first|assumption|omega|(with_reducible rfl)|(simp only[go_sem];done)|(simp only[go_sem];omega)|fail) only[↓reduceIte,↓AA,Nat.reduceAdd,go_sem,Bool.not_true,Bool.not_false];rfl)) _).trans ?_|refine(if_pos (by first|rfl|(simp(disch:=first|assumption|omega|(with_reducible rfl)|(simp only[go_sem];done)|(simp only[go_sem];omega)|fail) only[↓reduceIte,↓AA,Nat.reduceAdd,go_sem,Bool.not_true,Bool.not_false];done))).trans ?_|refine(AQ (by first|assumption|omega|(simp(disch:=first|assumption|omega|(with_reducible rfl)|(simp only[go_sem];done)|(simp only[go_sem];omega)|fail) only[↓reduceIte,↓AA,Nat.reduceAdd,go_sem,Bool.not_true,Bool.not_false];done)|(simp(disch:=first|assumption|omega|(with_reducible rfl)|(simp only[go_sem];done)|(simp only[go_sem];omega)|fail) only[↓reduceIte,↓AA,Nat.reduceAdd,go_sem,Bool.not_true,Bool.not_false];omega)) _ _).trans ?_|refine(AO (by first|assumption|omega|(simp(disch:=first|assumption|omega|(with_reducible rfl)|(simp only[go_sem];done)|(simp only[go_sem];omega)|fail) only[↓reduceIte,↓AA,Nat.reduceAdd,go_sem,Bool.not_true,Bool.not_false];done)|(simp(disch:=first|assumption|omega|(with_reducible rfl)|(simp only[go_sem];done)|(simp only[go_sem];omega)|fail) only[↓reduceIte,↓AA,Nat.reduceAdd,go_sem,Bool.not_true,Bool.not_false];omega)) _ _).trans ?_|fail)
  all_goals rfl
 |succ n ih=>
  intro i f acc hf hi ha
  have h:i<g.es.length:=by omega
  have hx:=QV h
  have lw1:MP true [.rop 45 (GK g.es[i])]=true:=rfl
  have sb0:Gt (.ref 0 [] 24) (.ref 0 [1] 22)=true:=rfl
  have sb2:Gt (.ref 2 [] 24) (.ref 2 [1] 22)=true:=rfl
  have df:UR (.ref 2 [] 24) (.ref 0 [] 24)=true:=rfl
  have tk:∀(a z x0:V) (rs:List V) (f:Fl),CX [a,z,.agg 23 [x0,.lst 45 f rs]] 22 (.ref 2 [1] 22)=some (.lst 45 f rs,[a,z,.agg 23 [x0,.lst 45 f.wk rs]]):=
   fun a z x0 rs f=>OJ (h:=[a,z,.agg 23 [x0,.lst 45 f rs]]) (id:=2) rfl rfl
  rw[List.drop_eq_getElem_cons h,List.filter_cons]
  by_cases hk:OG v w g.es[i]=true
  ·obtain⟨f',hf',e⟩:=ih (i+1) .own (acc++[g.es[i]]) (Or.inl rfl) (by omega) (by simp;omega)
   rw[List.append_assoc,List.singleton_append]at e
   rw[if_pos hk]
   refine⟨f',hf',?_⟩
   rw[←e,Ko]
   clear ih e
   simp only[OG,Bool.and_eq_true,decide_eq_true_eq]at hk
   obtain⟨k1,k2⟩:=hk
   simp only[Yr,List.map_append,List.map_cons,List.map_nil]
   generalize g.es[i]=y at*
   have fr:fA 45 3 0 (.rop 45 (GK y))=some (.rop 3 (.int .i64 y.fr)):=rfl
   have to:fA 45 3 1 (.rop 45 (GK y))=some (.rop 3 (.int .i64 y.to)):=rfl
   rcases hf with rfl|rfl
   all_goals (repeat' with_reducible first|refine(Af _ _).trans ?_|refine(Aa _ _).trans ?_|refine(AA _ _).trans ?_|refine(AB (by first|rfl|(simp(disch:=first|assumption|omega|(with_reducible rfl)|(simp only[go_sem];done)|(simp only[go_sem];omega)|fail) only[↓reduceIte,↓AA,Nat.reduceAdd,go_sem,Bool.not_true,Bool.not_false,hx,lw1,sb0,sb2,df,tk,Fb,Fe,fr,to];rfl)) _).trans ?_|refine(if_pos (by first|rfl|(simp(disch:=first|assumption|omega|(with_reducible rfl)|(simp only[go_sem];done)|(simp only[go_sem];omega)|fail) only[↓reduceIte,↓AA,Nat.reduceAdd,go_sem,Bool.not_true,Bool.not_false,hx,lw1,sb0,sb2,df,tk,Fb,Fe,fr,to];done))).trans ?_|refine(AQ (by first|assumption|omega|(simp(disch:=first|assumption|omega|(with_reducible rfl)|(simp only[go_sem];done)|(simp only[go_sem];omega)|fail) only[↓reduceIte,↓AA,Nat.reduceAdd,go_sem,Bool.not_true,Bool.not_false,hx,lw1,sb0,sb2,df,tk,Fb,Fe,fr,to];done)|(simp(disch:=first|assumption|omega|(with_reducible rfl)|(simp only[go_sem];done)|(simp only[go_sem];omega)|fail) only[↓reduceIte,↓AA,Nat.reduceAdd,go_sem,Bool.not_true,Bool.not_false,hx,lw1,sb0,sb2,df,tk,Fb,Fe,fr,to];omega)) _ _).trans ?_|refine(AO (by first|assumption|omega|(simp(disch:=first|assumption|omega|(with_reducible rfl)|(simp only[go_sem];done)|(simp only[go_sem];omega)|fail) only[↓reduceIte,↓AA,Nat.reduceAdd,go_sem,Bool.not_true,Bool.not_false,hx,lw1,sb0,sb2,df,tk,Fb,Fe,fr,to];done)|(simp(disch:=first|assumption|omega|(with_reducible rfl)|(simp only[go_sem];done)|(simp only[go_sem];omega)|fail) only[↓reduceIte,↓AA,Nat.reduceAdd,go_sem,Bool.not_true,Bool.not_false,hx,lw1,sb0,sb2,df,tk,Fb,Fe,fr,to];omega)) _ _).trans ?_|fail)
   all_goals rfl
  ·obtain⟨f',hf',e⟩:=ih (i+1) f acc hf (by omega) (by omega)
   rw[if_neg hk]
   refine⟨f',hf',?_⟩
   rw[←e,Ko]
   clear ih e
   simp only[OG,Bool.and_eq_true,decide_eq_true_eq]at hk
   generalize g.es[i]=y at*
   simp only[GK]at hx
   by_cases k1:y.fr=v
   ·have k2:¬y.to=w:=fun h=>hk ⟨k1,h⟩
    rcases hf with rfl|rfl
    all_goals (repeat' with_reducible first|refine(Af _ _).trans ?_|refine(Aa _ _).trans ?_|refine(AA _ _).trans ?_|refine(AB (by first|rfl|(simp(disch:=first|assumption|omega|(with_reducible rfl)|(simp only[go_sem];done)|(simp only[go_sem];omega)|fail) only[↓reduceIte,↓AA,Nat.reduceAdd,go_sem,Bool.not_true,Bool.not_false,hx];rfl)) _).trans ?_|refine(if_pos (by first|rfl|(simp(disch:=first|assumption|omega|(with_reducible rfl)|(simp only[go_sem];done)|(simp only[go_sem];omega)|fail) only[↓reduceIte,↓AA,Nat.reduceAdd,go_sem,Bool.not_true,Bool.not_false,hx];done))).trans ?_|refine(AQ (by first|assumption|omega|(simp(disch:=first|assumption|omega|(with_reducible rfl)|(simp only[go_sem];done)|(simp only[go_sem];omega)|fail) only[↓reduceIte,↓AA,Nat.reduceAdd,go_sem,Bool.not_true,Bool.not_false,hx];done)|(simp(disch:=first|assumption|omega|(with_reducible rfl)|(simp only[go_sem];done)|(simp only[go_sem];omega)|fail) only[↓reduceIte,↓AA,Nat.reduceAdd,go_sem,Bool.not_true,Bool.not_false,hx];omega)) _ _).trans ?_|refine(AO (by first|assumption|omega|(simp(disch:=first|assumption|omega|(with_reducible rfl)|(simp only[go_sem];done)|(simp only[go_sem];omega)|fail) only[↓reduceIte,↓AA,Nat.reduceAdd,go_sem,Bool.not_true,Bool.not_false,hx];done)|(simp(disch:=first|assumption|omega|(with_reducible rfl)|(simp only[go_sem];done)|(simp only[go_sem];omega)|fail) only[↓reduceIte,↓AA,Nat.reduceAdd,go_sem,Bool.not_true,Bool.not_false,hx];omega)) _ _).trans ?_|fail)
    all_goals rfl
   ·rcases hf with rfl|rfl
    all_goals (repeat' with_reducible first|refine(Af _ _).trans ?_|refine(Aa _ _).trans ?_|refine(AA _ _).trans ?_|refine(AB (by first|rfl|(simp(disch:=first|assumption|omega|(with_reducible rfl)|(simp only[go_sem];done)|(simp only[go_sem];omega)|fail) only[↓reduceIte,↓AA,Nat.reduceAdd,go_sem,Bool.not_true,Bool.not_false,hx];rfl)) _).trans ?_|refine(if_pos (by first|rfl|(simp(disch:=first|assumption|omega|(with_reducible rfl)|(simp only[go_sem];done)|(simp only[go_sem];omega)|fail) only[↓reduceIte,↓AA,Nat.reduceAdd,go_sem,Bool.not_true,Bool.not_false,hx];done))).trans ?_|refine(AQ (by first|assumption|omega|(simp(disch:=first|assumption|omega|(with_reducible rfl)|(simp only[go_sem];done)|(simp only[go_sem];omega)|fail) only[↓reduceIte,↓AA,Nat.reduceAdd,go_sem,Bool.not_true,Bool.not_false,hx];done)|(simp(disch:=first|assumption|omega|(with_reducible rfl)|(simp only[go_sem];done)|(simp only[go_sem];omega)|fail) only[↓reduceIte,↓AA,Nat.reduceAdd,go_sem,Bool.not_true,Bool.not_false,hx];omega)) _ _).trans ?_|refine(AO (by first|assumption|omega|(simp(disch:=first|assumption|omega|(with_reducible rfl)|(simp only[go_sem];done)|(simp only[go_sem];omega)|fail) only[↓reduceIte,↓AA,Nat.reduceAdd,go_sem,Bool.not_true,Bool.not_false,hx];done)|(simp(disch:=first|assumption|omega|(with_reducible rfl)|(simp only[go_sem];done)|(simp only[go_sem];omega)|fail) only[↓reduceIte,↓AA,Nat.reduceAdd,go_sem,Bool.not_true,Bool.not_false,hx];omega)) _ _).trans ?_|fail)
    all_goals rfl
end
section
open Go AM
theorem AIH {g:Grf} (hl:g.es.length≤512) {N:Nat} (hN:N≤64) (hg:g.n=(N:Int)) {v:Nat} (base:List E0) (hb:base.length≤1000000000) (m0:Nat):∀(n w:Nat) (f:Fl),(f= .own∨f= .nil)→w+n=N→
 ∃f',(f'= .own∨f'= .nil)∧NQ (.ref 0 [] 24) (.ref 1 [] 24) (.ref 2 [] 24) (.int .i64 (v:Int)) (.int .i64 (w:Int)) m0 (Yr g f (base++Gz g.es (v:Int) w))=
  (AL .add (.int .i64 (v:Int)) (.int .i64 1)).bind fun t=>NP (.ref 0 [] 24) (.ref 1 [] 24) (.ref 2 [] 24) t (Yr g f' (base++Gz g.es (v:Int) N)):=by
 intro n
 induction n with
 |zero=>
  intro w f hf hw
  obtain rfl:w=N:=by omega
  refine⟨f,hf,?_⟩
  rw[Pq]
  generalize base++Gz g.es (v:Int) w=acc at*
  generalize AL .add (.int .i64 (v:Int)) (.int .i64 1)=x at*
  rcases hf with rfl|rfl
  all_goals (repeat' with_reducible first|refine(Af _ _).trans ?_|refine(Aa _ _).trans ?_|refine(AA _ _).trans ?_|refine(AB (by first|rfl|(simp(disch:=first|assumption|omega|(with_reducible rfl)|(simp only[go_sem];done)|(simp only[go_sem];omega)|fail) only[↓reduceIte,↓AA,Nat.reduceAdd,go_sem,Bool.not_true,Bool.not_false,hg];rfl)) _).trans ?_|refine(if_pos (by first|rfl|(simp(disch:=first|assumption|omega|(with_reducible rfl)|(simp only[go_sem];done)|(simp only[go_sem];omega)|fail) only[↓reduceIte,↓AA,Nat.reduceAdd,go_sem,Bool.not_true,Bool.not_false,hg];done))).trans ?_|refine(AQ (by first|assumption|omega|(simp(disch:=first|assumption|omega|(with_reducible rfl)|(simp only[go_sem];done)|(simp only[go_sem];omega)|fail) only[↓reduceIte,↓AA,Nat.reduceAdd,go_sem,Bool.not_true,Bool.not_false,hg];done)|(simp(disch:=first|assumption|omega|(with_reducible rfl)|(simp only[go_sem];done)|(simp only[go_sem];omega)|fail) only[↓reduceIte,↓AA,Nat.reduceAdd,go_sem,Bool.not_true,Bool.not_false,hg];omega)) _ _).trans ?_|refine(AO (by first|assumption|omega|(simp(disch:=first|assumption|omega|(with_reducible rfl)|(simp only[go_sem];done)|(simp only[go_sem];omega)|fail) only[↓reduceIte,↓AA,Nat.reduceAdd,go_sem,Bool.not_true,Bool.not_false,hg];done)|(simp(disch:=first|assumption|omega|(with_reducible rfl)|(simp only[go_sem];done)|(simp only[go_sem];omega)|fail) only[↓reduceIte,↓AA,Nat.reduceAdd,go_sem,Bool.not_true,Bool.not_false,hg];omega)) _ _).trans ?_|fail)
  all_goals rfl
 |succ n ih=>
  intro w f hf hw
  have hr:=OI g.es (v:Int) w
  have hm:w*g.es.length≤64*512:=Nat.mul_le_mul (by omega) hl
  obtain⟨f1,hf1,e1⟩:=AIF (g:=g) (by omega) (v:=(v:Int)) (w:=(w:Int)) m0 3 g.es.length 0 f (base++Gz g.es (v:Int) w) hf (by omega) (by rw[List.length_append];omega)
  obtain⟨f2,hf2,e2⟩:=ih (w+1) f1 hf1 (by omega)
  refine⟨f2,hf2,?_⟩
  have ad:AL .add (.int .i64 (w:Int)) (.int .i64 1)=some (.int .i64 ((w+1:Nat):Int)):=by
   rw[DZ,Ad (by omega) (by omega)];rfl
  rw[LQ,←List.append_assoc]at e2
  rw[←e2]
  rw[List.drop_zero]at e1
  have e1':=e1.trans (AB ad _)
  rw[←e1',Pq]
  clear e1 e2 e1' ih
  generalize base++Gz g.es (v:Int) w=acc at*
  rcases hf with rfl|rfl
  all_goals (repeat' with_reducible first|refine(Af _ _).trans ?_|refine(Aa _ _).trans ?_|refine(AA _ _).trans ?_|refine(AB (by first|rfl|(simp(disch:=first|assumption|omega|(with_reducible rfl)|(simp only[go_sem];done)|(simp only[go_sem];omega)|fail) only[↓reduceIte,↓AA,Nat.reduceAdd,go_sem,Bool.not_true,Bool.not_false,hg];rfl)) _).trans ?_|refine(if_pos (by first|rfl|(simp(disch:=first|assumption|omega|(with_reducible rfl)|(simp only[go_sem];done)|(simp only[go_sem];omega)|fail) only[↓reduceIte,↓AA,Nat.reduceAdd,go_sem,Bool.not_true,Bool.not_false,hg];done))).trans ?_|refine(AQ (by first|assumption|omega|(simp(disch:=first|assumption|omega|(with_reducible rfl)|(simp only[go_sem];done)|(simp only[go_sem];omega)|fail) only[↓reduceIte,↓AA,Nat.reduceAdd,go_sem,Bool.not_true,Bool.not_false,hg];done)|(simp(disch:=first|assumption|omega|(with_reducible rfl)|(simp only[go_sem];done)|(simp only[go_sem];omega)|fail) only[↓reduceIte,↓AA,Nat.reduceAdd,go_sem,Bool.not_true,Bool.not_false,hg];omega)) _ _).trans ?_|refine(AO (by first|assumption|omega|(simp(disch:=first|assumption|omega|(with_reducible rfl)|(simp only[go_sem];done)|(simp only[go_sem];omega)|fail) only[↓reduceIte,↓AA,Nat.reduceAdd,go_sem,Bool.not_true,Bool.not_false,hg];done)|(simp(disch:=first|assumption|omega|(with_reducible rfl)|(simp only[go_sem];done)|(simp only[go_sem];omega)|fail) only[↓reduceIte,↓AA,Nat.reduceAdd,go_sem,Bool.not_true,Bool.not_false,hg];omega)) _ _).trans ?_|fail)
  all_goals rfl
theorem AII {g:Grf} (hl:g.es.length≤512) {N:Nat} (hN:N≤64) (hg:g.n=(N:Int)):∀(n v:Nat) (f:Fl),(f= .own∨f= .nil)→v+n=N→
 NP (.ref 0 [] 24) (.ref 1 [] 24) (.ref 2 [] 24) (.int .i64 (v:Int)) (Yr g f (Hu g.es N v))=some (vG .sh ⟨g.n,Hu g.es N N⟩,[]):=by
 intro n
 induction n with
 |zero=>
  intro v f hf hv
  obtain rfl:v=N:=by omega
  rw[Pv]
  generalize Hu g.es v v=acc at*
  rcases hf with rfl|rfl
  all_goals (repeat' with_reducible first|refine(Af _ _).trans ?_|refine(Aa _ _).trans ?_|refine(AA _ _).trans ?_|refine(AB (by first|rfl|(simp(disch:=first|assumption|omega|(with_reducible rfl)|(simp only[go_sem];done)|(simp only[go_sem];omega)|fail) only[↓reduceIte,↓AA,Nat.reduceAdd,go_sem,Bool.not_true,Bool.not_false,hg];rfl)) _).trans ?_|refine(if_pos (by first|rfl|(simp(disch:=first|assumption|omega|(with_reducible rfl)|(simp only[go_sem];done)|(simp only[go_sem];omega)|fail) only[↓reduceIte,↓AA,Nat.reduceAdd,go_sem,Bool.not_true,Bool.not_false,hg];done))).trans ?_|refine(AQ (by first|assumption|omega|(simp(disch:=first|assumption|omega|(with_reducible rfl)|(simp only[go_sem];done)|(simp only[go_sem];omega)|fail) only[↓reduceIte,↓AA,Nat.reduceAdd,go_sem,Bool.not_true,Bool.not_false,hg];done)|(simp(disch:=first|assumption|omega|(with_reducible rfl)|(simp only[go_sem];done)|(simp only[go_sem];omega)|fail) only[↓reduceIte,↓AA,Nat.reduceAdd,go_sem,Bool.not_true,Bool.not_false,hg];omega)) _ _).trans ?_|refine(AO (by first|assumption|omega|(simp(disch:=first|assumption|omega|(with_reducible rfl)|(simp only[go_sem];done)|(simp only[go_sem];omega)|fail) only[↓reduceIte,↓AA,Nat.reduceAdd,go_sem,Bool.not_true,Bool.not_false,hg];done)|(simp(disch:=first|assumption|omega|(with_reducible rfl)|(simp only[go_sem];done)|(simp only[go_sem];omega)|fail) only[↓reduceIte,↓AA,Nat.reduceAdd,go_sem,Bool.not_true,Bool.not_false,hg];omega)) _ _).trans ?_|fail)
  all_goals rw[hg]
  all_goals rfl
 |succ n ih=>
  intro v f hf hv
  have hm:v*(N*g.es.length)≤64*(64*512):=Nat.mul_le_mul (by omega) (Nat.mul_le_mul hN hl)
  have ha:=U2 g.es N v
  obtain⟨f1,hf1,e1⟩:=AIH hl hN hg (v:=v) (Hu g.es N v) (by omega) 3 N 0 f hf (by omega)
  have ih':=ih (v+1) f1 hf1 (by omega)
  rw[LU]at ih'
  have ad:AL .add (.int .i64 (v:Int)) (.int .i64 1)=some (.int .i64 ((v+1:Nat):Int)):=by
   rw[DZ,Ad (by omega) (by omega)];rfl
  have e1':=e1.trans (AB ad _)
  rw[show Gz g.es (v:Int) 0=[]by simp[Gz],List.append_nil]at e1'
  rw[←ih',←e1',Pv]
  clear e1 e1' ih ih'
  generalize Hu g.es N v=acc at*
  rcases hf with rfl|rfl
  all_goals (repeat' with_reducible first|refine(Af _ _).trans ?_|refine(Aa _ _).trans ?_|refine(AA _ _).trans ?_|refine(AB (by first|rfl|(simp(disch:=first|assumption|omega|(with_reducible rfl)|(simp only[go_sem];done)|(simp only[go_sem];omega)|fail) only[↓reduceIte,↓AA,Nat.reduceAdd,go_sem,Bool.not_true,Bool.not_false,hg];rfl)) _).trans ?_|refine(if_pos (by first|rfl|(simp(disch:=first|assumption|omega|(with_reducible rfl)|(simp only[go_sem];done)|(simp only[go_sem];omega)|fail) only[↓reduceIte,↓AA,Nat.reduceAdd,go_sem,Bool.not_true,Bool.not_false,hg];done))).trans ?_|refine(AQ (by first|assumption|omega|(simp(disch:=first|assumption|omega|(with_reducible rfl)|(simp only[go_sem];done)|(simp only[go_sem];omega)|fail) only[↓reduceIte,↓AA,Nat.reduceAdd,go_sem,Bool.not_true,Bool.not_false,hg];done)|(simp(disch:=first|assumption|omega|(with_reducible rfl)|(simp only[go_sem];done)|(simp only[go_sem];omega)|fail) only[↓reduceIte,↓AA,Nat.reduceAdd,go_sem,Bool.not_true,Bool.not_false,hg];omega)) _ _).trans ?_|refine(AO (by first|assumption|omega|(simp(disch:=first|assumption|omega|(with_reducible rfl)|(simp only[go_sem];done)|(simp only[go_sem];omega)|fail) only[↓reduceIte,↓AA,Nat.reduceAdd,go_sem,Bool.not_true,Bool.not_false,hg];done)|(simp(disch:=first|assumption|omega|(with_reducible rfl)|(simp only[go_sem];done)|(simp only[go_sem];omega)|fail) only[↓reduceIte,↓AA,Nat.reduceAdd,go_sem,Bool.not_true,Bool.not_false,hg];omega)) _ _).trans ?_|fail)
  all_goals rfl
theorem AB9 {g:Grf} (hc:EJ g=0):Cl 18 [vG .sh g] []=some (vG .sh (Gu g),[]):=by
 obtain⟨⟨g1,g2⟩,g3,g4,g5⟩:=Tq hc
 have h:=AII g3 (N:=g.n.toNat) (by omega) (by omega) g.n.toNat 0 .nil (Or.inr rfl) (by omega)
 rw[AB8 hc,show Hu g.es g.n.toNat 0=[]by simp[Hu]]at h
 rw[Gu,if_pos hc,←h,AFB]
 clear h
 (repeat' with_reducible first|refine(Af _ _).trans ?_|refine(Aa _ _).trans ?_|refine(AA _ _).trans ?_|refine(AB (by first|rfl|(simp(disch:=first|assumption|omega|(with_reducible rfl)|(simp only[go_sem];done)|(simp only[go_sem];omega)|fail) only[↓reduceIte,↓AA,Nat.reduceAdd,go_sem,Bool.not_true,Bool.not_false];rfl)) _).trans ?_|refine(if_pos (by first|rfl|(simp(disch:=first|assumption|omega|(with_reducible rfl)|(simp only[go_sem];done)|(simp only[go_sem];omega)|fail) only[↓reduceIte,↓AA,Nat.reduceAdd,go_sem,Bool.not_true,Bool.not_false];done))).trans ?_|refine(AQ (by first|assumption|omega|(simp(disch:=first|assumption|omega|(with_reducible rfl)|(simp only[go_sem];done)|(simp only[go_sem];omega)|fail) only[↓reduceIte,↓AA,Nat.reduceAdd,go_sem,Bool.not_true,Bool.not_false];done)|(simp(disch:=first|assumption|omega|(with_reducible rfl)|(simp only[go_sem];done)|(simp only[go_sem];omega)|fail) only[↓reduceIte,↓AA,Nat.reduceAdd,go_sem,Bool.not_true,Bool.not_false];omega)) _ _).trans ?_|refine(AO (by first|assumption|omega|(simp(disch:=first|assumption|omega|(with_reducible rfl)|(simp only[go_sem];done)|(simp only[go_sem];omega)|fail) only[↓reduceIte,↓AA,Nat.reduceAdd,go_sem,Bool.not_true,Bool.not_false];done)|(simp(disch:=first|assumption|omega|(with_reducible rfl)|(simp only[go_sem];done)|(simp only[go_sem];omega)|fail) only[↓reduceIte,↓AA,Nat.reduceAdd,go_sem,Bool.not_true,Bool.not_false];omega)) _ _).trans ?_|fail)
 rfl
end
section
open Go AM
def BM:List (List UInt8)→List UInt8→List UInt8
 |[],t=>t
 |l::ls,t=>l++10::BM ls t
theorem U3:∀s:List UInt8,∃ls t,s=BM ls t∧(∀l∈ls,(10:UInt8)∉l)∧(10:UInt8)∉t
 |[]=>⟨[],[],rfl,by simp,by simp⟩
 |c::r=>by
  obtain⟨ls,t,e,h1,h2⟩:=U3 r
  by_cases hc:c=10
  ·exact⟨[]::ls,t,by rw[BM,e,hc];rfl,fun l h=>(List.mem_cons.1 h).elim (fun e=>by rw[e];simp) (h1 l),h2⟩
  ·match ls,e,h1 with
   |[],e,_=>exact⟨[],c::t,by rw[BM,e];rfl,by simp,fun h=>(List.mem_cons.1 h).elim (fun e=>hc e.symm) h2⟩
   |l::ls,e,h1=>
    refine⟨(c::l)::ls,t,by rw[BM,e];rfl,fun x h=> ?_,h2⟩
    rcases List.mem_cons.1 h with rfl|h
    ·exact fun h=>(List.mem_cons.1 h).elim (fun e=>hc e.symm) (h1 l List.mem_cons_self)
    ·exact h1 x (List.mem_cons_of_mem _ h)
theorem Io:∀(ls:List (List UInt8)) (t:List UInt8),ls.length≤(BM ls t).length
 |[],t=>Nat.zero_le _
 |l::ls,t=>by
  have:=Io ls t
  rw[BM,List.length_append,List.length_cons,List.length_cons];omega
def Dw:List (List UInt8)→List UInt8→Nat→List E0→Nat⊕List E0
 |[],t,n,acc=>if t=[]then .inr acc else .inl n
 |l::ls,t,n,acc=>match Dt C9 3 l with
  |some [a,b,c]=>Dw ls t (n+1) (acc++[⟨a,b,c⟩])
  |_=> .inl n
def PN (N:Int):Nat⊕List E0→Grf×Nat×Int
 | .inl n=>(⟨0,[]⟩,n,52)
 | .inr es=>(Gu ⟨N,es⟩,0,EJ ⟨N,es⟩)
def Gv:List (List UInt8)→List UInt8→Grf×Nat×Int
 |[],_=>(⟨0,[]⟩,1,52)
 |l::ls,t=>match Dt BR 1 l with
  |some [a]=>PN (a:Int) (Dw ls t 2 [])
  |_=>(⟨0,[]⟩,1,52)
def Yt (r:Grf×Nat×Int):V:= .tup [vG .sh r.1,.int .i64 (r.2.1:Int),.int .i64 r.2.2]
theorem AGL {l:List UInt8} {ns:List Nat} (h:Dt C9 3 l=some ns):∃a b c,ns=[a,b,c]:=by
 have:=(LP h).1
 match ns,this with
 |[a,b,c],_=>exact⟨a,b,c,rfl⟩
theorem AGM {l:List UInt8} {ns:List Nat} (h:Dt BR 1 l=some ns):∃a,ns=[a]:=by
 have:=(LP h).1
 match ns,this with
 |[a],_=>exact⟨a,rfl⟩
abbrev Eg (N:Int) (f:Fl) (acc:List E0):List V:=[zG,.agg 23 [.int .i64 N,.lst 45 f (acc.map GK)]]
theorem ADu:∀(ls:List (List UInt8)) (t:List UInt8) (N:Int) (acc:List E0) (f:Fl) (n:Nat),(f= .own∨f= .nil)→2≤n→n+ls.length≤5000→acc.length+ls.length≤5000→(∀l∈ls,(10:UInt8)∉l)→(10:UInt8)∉t→(BM ls t).length≤2000→
 RU (.str (BM ls t)) (.ref 0 [] 24) (.ref 1 [] 24) (.int .i64 (n:Int)) (Eg N f acc)=some (Yt (PN N (Dw ls t n acc)),[]):=by
 intro ls
 induction ls with
 |nil=>
  intro t N acc f n hf h2 hn ha _ ht hl
  rw[BM]at*
  have e1:AL .eql (.int .i64 (n:Int)) (.int .i64 1)=some (.bool false):=by rw[b_eql,decide_eq_false (by omega)]
  by_cases h0:t=[]
  ·subst h0
   have e2:AL .neq (.str []) (.str [])=some (.bool false):=rfl
   have nm:=ADj (g:=⟨N,acc⟩) (by simp at ha⊢;omega)
   rw[show Dw [] [] n acc= .inr acc from rfl,PN]
   generalize Gu ⟨N,acc⟩=m at*
   generalize EJ ⟨N,acc⟩=e at*
   rw[EF]
   simp only[HY,XY,XZ]
   rcases hf with rfl|rfl
   all_goals (repeat' with_reducible first|refine(Af _ _).trans ?_|refine(Aa _ _).trans ?_|refine(AA _ _).trans ?_|((first|(refine' (AB ?_ _).trans ?_;rotate_left)|refine(if_pos ?_).trans ?_|refine(AQ ?_ _ _).trans ?_);focus (first|rfl|(simp(disch:=first|assumption|omega|with_reducible rfl|(simp only[go_sem]<;>omega)|fail) only[↓reduceIte,↓AA,Nat.reduceAdd,go_sem,Bool.not_true,Bool.not_false,e1,e2,nm]<;>first|rfl|omega)|assumption|omega))|(refine(AO ?_ _ _).trans ?_;focus (first|(simp(disch:=first|assumption|omega|with_reducible rfl|(simp only[go_sem]<;>omega)|fail) only[↓reduceIte,↓AA,Nat.reduceAdd,go_sem,Bool.not_true,Bool.not_false,e1,e2,nm]<;>omega)|assumption|omega))|fail)
   all_goals rfl
  ·have e2:AL .neq (.str t) (.str [])=some (.bool true):=by simp[AL,h0]
   have ct:=X4 ht
   obtain⟨is,nu,_⟩:=Gi (w:=C9) (s:=t) (k:=3) (by simp[C9]) (by simp[C9]) hl (by omega) (by omega)
   have nu':Cl 36 [.str t,.str C9,.int .i64 3] []=_:=nu
   rw[show Dw [] t n acc= .inl n from if_neg h0,PN]
   simp only[C9]at nu'
   clear nu
   generalize (Dt [101,100,103,101] 3 t).isSome=b at*
   rw[EF]
   simp only[HY,JU,JV,JW,JY,JX,GL,Jv]
   rcases hf with rfl|rfl
   all_goals (repeat' with_reducible first|refine(Af _ _).trans ?_|refine(Aa _ _).trans ?_|refine(AA _ _).trans ?_|((first|(refine' (AB ?_ _).trans ?_;rotate_left)|refine(if_pos ?_).trans ?_|refine(AQ ?_ _ _).trans ?_);focus (first|rfl|(simp(disch:=first|assumption|omega|with_reducible rfl|(simp only[go_sem]<;>omega)|fail) only[↓reduceIte,↓AA,Nat.reduceAdd,go_sem,Bool.not_true,Bool.not_false,e1,e2,ct,nu']<;>first|rfl|omega)|assumption|omega))|(refine(AO ?_ _ _).trans ?_;focus (first|(simp(disch:=first|assumption|omega|with_reducible rfl|(simp only[go_sem]<;>omega)|fail) only[↓reduceIte,↓AA,Nat.reduceAdd,go_sem,Bool.not_true,Bool.not_false,e1,e2,ct,nu']<;>omega)|assumption|omega))|fail)
   all_goals rfl
 |cons l ls ih=>
  intro t N acc f n hf h2 hn ha hls ht hl
  rw[BM]at hl⊢
  rw[List.length_cons]at hn ha
  have hl10:=hls l List.mem_cons_self
  have e1:AL .eql (.int .i64 (n:Int)) (.int .i64 1)=some (.bool false):=by rw[b_eql,decide_eq_false (by omega)]
  have e2:AL .neq (.str (l++10::BM ls t)) (.str [])=some (.bool true):=by simp[AL]
  have ct:=AB0 (b:=BM ls t) hl10 (by omega)
  have hll:l.length≤2000∧(BM ls t).length≤2000:=by rw[List.length_append,List.length_cons]at hl;omega
  obtain⟨is,nu,hns⟩:=Gi (w:=C9) (s:=l) (k:=3) (by simp[C9]) (by simp[C9]) hll.1 (by omega) (by omega)
  have nu':Cl 36 [.str l,.str C9,.int .i64 3] []=_:=nu
  clear nu
  rw[Dw]
  cases hp:Dt C9 3 l with
  |none=>
   rw[hp]at nu'
   rw[PN]
   simp only[C9]at nu'
   generalize l++10::BM ls t=s at*
   generalize BM ls t=r at*
   rw[EF]
   simp only[HY,JU,JV,JW,JY,JX,GL,Jv]
   rcases hf with rfl|rfl
   all_goals (repeat' with_reducible first|refine(Af _ _).trans ?_|refine(Aa _ _).trans ?_|refine(AA _ _).trans ?_|((first|(refine' (AB ?_ _).trans ?_;rotate_left)|refine(if_pos ?_).trans ?_|refine(AQ ?_ _ _).trans ?_);focus (first|rfl|(simp(disch:=first|assumption|omega|with_reducible rfl|(simp only[go_sem]<;>omega)|fail) only[↓reduceIte,↓AA,Nat.reduceAdd,go_sem,Bool.not_true,Bool.not_false,e1,e2,ct,nu']<;>first|rfl|omega)|assumption|omega))|(refine(AO ?_ _ _).trans ?_;focus (first|(simp(disch:=first|assumption|omega|with_reducible rfl|(simp only[go_sem]<;>omega)|fail) only[↓reduceIte,↓AA,Nat.reduceAdd,go_sem,Bool.not_true,Bool.not_false,e1,e2,ct,nu']<;>omega)|assumption|omega))|fail)
   all_goals rfl
  |some ns=>
   obtain⟨a,b,c,rfl⟩:=AGL hp
   have hi:=hns _ hp
   subst hi
   rw[hp]at nu'
   dsimp only
   have ih':=ih t N (acc++[⟨a,b,c⟩]) .own (n+1) (Or.inl rfl) (by omega) (by omega) (by simp;omega) (fun x hx=>hls x (List.mem_cons_of_mem _ hx)) ht hll.2
   rw[Eg,List.map_append,List.map_cons,List.map_nil]at ih'
   have ad:AL .add (.int .i64 (n:Int)) (.int .i64 1)=some (.int .i64 ((n+1:Nat):Int)):=by
    rw[DZ,Ad (by omega) (by omega)];rfl
   have tk:∀(z x0:V) (rs:List V) (f:Fl),CX [z,.agg 23 [x0,.lst 45 f rs]] 22 (.ref 1 [1] 22)=some (.lst 45 f rs,[z,.agg 23 [x0,.lst 45 f.wk rs]]):=
    fun z x0 rs f=>OJ (h:=[z,.agg 23 [x0,.lst 45 f rs]]) (id:=1) rfl rfl
   have sb1:Gt (.ref 1 [] 24) (.ref 1 [1] 22)=true:=rfl
   have lw:∀x,MP true [.rop 3 (.int .i64 x)]=true:=fun _=>rfl
   have i0:∀a b c:Int,D6 3 (V.weak (.lst 3 .sh [.int .i64 a,.int .i64 b,.int .i64 c])) (.int .i64 0)=some (.rop 3 (.int .i64 a)):=fun _ _ _=>rfl
   have i1:∀a b c:Int,D6 3 (V.weak (.lst 3 .sh [.int .i64 a,.int .i64 b,.int .i64 c])) (.int .i64 1)=some (.rop 3 (.int .i64 b)):=fun _ _ _=>rfl
   have i2:∀a b c:Int,D6 3 (V.weak (.lst 3 .sh [.int .i64 a,.int .i64 b,.int .i64 c])) (.int .i64 2)=some (.rop 3 (.int .i64 c)):=fun _ _ _=>rfl
   have i0':∀a b c:Int,D6 3 (.lst 3 .sh [.int .i64 a,.int .i64 b,.int .i64 c]) (.int .i64 0)=some (.rop 3 (.int .i64 a)):=fun _ _ _=>rfl
   have i1':∀a b c:Int,D6 3 (.lst 3 .sh [.int .i64 a,.int .i64 b,.int .i64 c]) (.int .i64 1)=some (.rop 3 (.int .i64 b)):=fun _ _ _=>rfl
   have i2':∀a b c:Int,D6 3 (.lst 3 .sh [.int .i64 a,.int .i64 b,.int .i64 c]) (.int .i64 2)=some (.rop 3 (.int .i64 c)):=fun _ _ _=>rfl
   have hle:acc.length≤5000:=by omega
   simp only[C9,Hq,List.map_cons,List.map_nil,Option.isSome_some]at nu'
   rw[←ih',EF]
   simp only[HY,Vk,JU,JV,JW,JY,JX,GL,RV,RY,RZ,RX]
   clear ih ih' hns hp
   generalize l++10::BM ls t=s at*
   generalize BM ls t=r at*
   simp only[Eg,GK]
   rcases hf with rfl|rfl
   all_goals (repeat' with_reducible first|refine(Af _ _).trans ?_|refine(Aa _ _).trans ?_|refine(AA _ _).trans ?_|((first|(refine' (AB ?_ _).trans ?_;rotate_left)|refine(if_pos ?_).trans ?_|refine(AQ ?_ _ _).trans ?_);focus (first|rfl|(simp(disch:=first|assumption|omega|with_reducible rfl|(simp only[go_sem]<;>omega)|fail) only[↓reduceIte,↓AA,Nat.reduceAdd,go_sem,Bool.not_true,Bool.not_false,e1,e2,ct,nu',ad,tk,sb1,lw,i0,i1,i2,i0',i1',i2',Fb,Fe]<;>first|rfl|omega)|assumption|omega))|(refine(AO ?_ _ _).trans ?_;focus (first|(simp(disch:=first|assumption|omega|with_reducible rfl|(simp only[go_sem]<;>omega)|fail) only[↓reduceIte,↓AA,Nat.reduceAdd,go_sem,Bool.not_true,Bool.not_false,e1,e2,ct,nu',ad,tk,sb1,lw,i0,i1,i2,i0',i1',i2',Fb,Fe]<;>omega)|assumption|omega))|fail)
   all_goals rfl
theorem ADv {ls:List (List UInt8)} {t:List UInt8} (hls:∀l∈ls,(10:UInt8)∉l) (ht:(10:UInt8)∉t) (hl:(BM ls t).length≤2000):
 Cl 23 [.str (BM ls t)] []=some (Yt (Gv ls t),[]):=by
 have e1:AL .eql (.int .i64 1) (.int .i64 1)=some (.bool true):=rfl
 match ls,hls,hl with
 |[],_,hl=>
  rw[BM]at hl⊢
  have ct:=X4 ht
  obtain⟨is,nu,_⟩:=Gi (w:=BR) (s:=t) (k:=1) (by simp[BR]) (by simp[BR]) hl (by omega) (by omega)
  have nu':Cl 36 [.str t,.str BR,.int .i64 1] []=_:=nu
  clear nu
  simp only[BR]at nu'
  rw[Gv]
  generalize (Dt [103,114,97,112,104] 1 t).isSome=b at*
  rw[Vl]
  simp only[RP,RQ,RS,List.nil_append,List.length_nil,List.cons_append,List.length_cons,Nat.zero_add]
  rw[EF]
  simp only[HY,JU,JV,JW,JY,JX,GL,Jv]
  (repeat' with_reducible first|refine(Af _ _).trans ?_|refine(Aa _ _).trans ?_|refine(AA _ _).trans ?_|((first|(refine' (AB ?_ _).trans ?_;rotate_left)|refine(if_pos ?_).trans ?_|refine(AQ ?_ _ _).trans ?_);focus (first|rfl|(simp(disch:=first|assumption|omega|with_reducible rfl|(simp only[go_sem]<;>omega)|fail) only[↓reduceIte,↓AA,Nat.reduceAdd,go_sem,Bool.not_true,Bool.not_false,e1,ct,nu']<;>first|rfl|omega)|assumption|omega))|(refine(AO ?_ _ _).trans ?_;focus (first|(simp(disch:=first|assumption|omega|with_reducible rfl|(simp only[go_sem]<;>omega)|fail) only[↓reduceIte,↓AA,Nat.reduceAdd,go_sem,Bool.not_true,Bool.not_false,e1,ct,nu']<;>omega)|assumption|omega))|fail)
  rfl
 |l::ls,hls,hl=>
  rw[BM]at hl⊢
  have hl10:=hls l List.mem_cons_self
  have ct:=AB0 (b:=BM ls t) hl10 (by omega)
  have hll:l.length≤2000∧(BM ls t).length≤2000:=by rw[List.length_append,List.length_cons]at hl;omega
  have hfl:=Io ls t
  obtain⟨is,nu,hns⟩:=Gi (w:=BR) (s:=l) (k:=1) (by simp[BR]) (by simp[BR]) hll.1 (by omega) (by omega)
  have nu':Cl 36 [.str l,.str BR,.int .i64 1] []=_:=nu
  clear nu
  rw[Gv]
  cases hp:Dt BR 1 l with
  |none=>
   rw[hp]at nu'
   dsimp only
   simp only[BR]at nu'
   generalize l++10::BM ls t=s at*
   generalize BM ls t=r at*
   rw[Vl]
   simp only[RP,RQ,RS,List.nil_append,List.length_nil,List.cons_append,List.length_cons,Nat.zero_add]
   rw[EF]
   simp only[HY,JU,JV,JW,JY,JX,GL,Jv]
   (repeat' with_reducible first|refine(Af _ _).trans ?_|refine(Aa _ _).trans ?_|refine(AA _ _).trans ?_|((first|(refine' (AB ?_ _).trans ?_;rotate_left)|refine(if_pos ?_).trans ?_|refine(AQ ?_ _ _).trans ?_);focus (first|rfl|(simp(disch:=first|assumption|omega|with_reducible rfl|(simp only[go_sem]<;>omega)|fail) only[↓reduceIte,↓AA,Nat.reduceAdd,go_sem,Bool.not_true,Bool.not_false,e1,ct,nu']<;>first|rfl|omega)|assumption|omega))|(refine(AO ?_ _ _).trans ?_;focus (first|(simp(disch:=first|assumption|omega|with_reducible rfl|(simp only[go_sem]<;>omega)|fail) only[↓reduceIte,↓AA,Nat.reduceAdd,go_sem,Bool.not_true,Bool.not_false,e1,ct,nu']<;>omega)|assumption|omega))|fail)
   rfl
  |some ns=>
   obtain⟨a,rfl⟩:=AGM hp
   have hi:=hns _ hp
   subst hi
   rw[hp]at nu'
   dsimp only
   have h0:=ADu ls t (a:Int) [] .nil 2 (Or.inr rfl) (by omega) (by omega) (by simp;omega) (fun x hx=>hls x (List.mem_cons_of_mem _ hx)) ht hll.2
   rw[Eg,List.map_nil]at h0
   have ad:AL .add (.int .i64 1) (.int .i64 1)=some (.int .i64 ((2:Nat):Int)):=rfl
   have i0:∀a:Int,D6 3 (.lst 3 .sh [.int .i64 a]) (.int .i64 0)=some (.rop 3 (.int .i64 a)):=fun _=>rfl
   simp only[BR,Hq,List.map_cons,List.map_nil,Option.isSome_some]at nu'
   rw[←h0,Vl]
   simp only[RP,RQ,RS,List.nil_append,List.length_nil,List.cons_append,List.length_cons,Nat.zero_add]
   rw[EF]
   simp only[HY,Vk,JU,JV,JW,JY,JX,GL,RV,RY,RZ,RX]
   clear h0 hns hp
   generalize l++10::BM ls t=s at*
   generalize BM ls t=r at*
   (repeat' with_reducible first|refine(Af _ _).trans ?_|refine(Aa _ _).trans ?_|refine(AA _ _).trans ?_|((first|(refine' (AB ?_ _).trans ?_;rotate_left)|refine(if_pos ?_).trans ?_|refine(AQ ?_ _ _).trans ?_);focus (first|rfl|(simp(disch:=first|assumption|omega|with_reducible rfl|(simp only[go_sem]<;>omega)|fail) only[↓reduceIte,↓AA,Nat.reduceAdd,go_sem,Bool.not_true,Bool.not_false,e1,ct,nu',ad,i0]<;>first|rfl|omega)|assumption|omega))|(refine(AO ?_ _ _).trans ?_;focus (first|(simp(disch:=first|assumption|omega|with_reducible rfl|(simp only[go_sem]<;>omega)|fail) only[↓reduceIte,↓AA,Nat.reduceAdd,go_sem,Bool.not_true,Bool.not_false,e1,ct,nu',ad,i0]<;>omega)|assumption|omega))|fail)
   rfl
end
section
open Go AM
theorem Yu {s:List UInt8} {i:Nat} (h:i<s.length):DY 0 (s.take (i+1))=DY 0 (s.take i)*10+(s[i].toNat-48):=by
 rw[←List.take_append_getElem h,Nz]
theorem ACA {s:List UInt8} (hl:s.length≤9):∀(m i:Nat),i+m=s.length→(∀c∈s.take i,PL c)→
 Ri (.str s) (.int .i64 (DY 0 (s.take i):Int)) (.int .i64 (i:Int))=some (.int .i64 (if ∀c∈s,PL c then(DY 0 s:Int)else -1),[]):=by
 intro m
 induction m with
 |zero=>
  intro i hi hd
  rw[List.take_of_length_le (by omega)]at hd⊢
  rw[if_pos hd,Ku]
  generalize DY 0 s=v at*
  (repeat' with_reducible first|refine(Af _ _).trans ?_|refine(Aa _ _).trans ?_|refine(AA _ _).trans ?_|refine(AB (by first|rfl|(simp(disch:=first|assumption|omega|(with_reducible rfl)|(simp only[go_sem];done)|(simp only[go_sem];omega)|fail) only[↓reduceIte,↓AA,Nat.reduceAdd,go_sem,Bool.not_true,Bool.not_false];rfl)) _).trans ?_|refine(if_pos (by first|rfl|(simp(disch:=first|assumption|omega|(with_reducible rfl)|(simp only[go_sem];done)|(simp only[go_sem];omega)|fail) only[↓reduceIte,↓AA,Nat.reduceAdd,go_sem,Bool.not_true,Bool.not_false];done))).trans ?_|refine(AQ (by first|assumption|omega|(simp(disch:=first|assumption|omega|(with_reducible rfl)|(simp only[go_sem];done)|(simp only[go_sem];omega)|fail) only[↓reduceIte,↓AA,Nat.reduceAdd,go_sem,Bool.not_true,Bool.not_false];done)|(simp(disch:=first|assumption|omega|(with_reducible rfl)|(simp only[go_sem];done)|(simp only[go_sem];omega)|fail) only[↓reduceIte,↓AA,Nat.reduceAdd,go_sem,Bool.not_true,Bool.not_false];omega)) _ _).trans ?_|refine(AO (by first|assumption|omega|(simp(disch:=first|assumption|omega|(with_reducible rfl)|(simp only[go_sem];done)|(simp only[go_sem];omega)|fail) only[↓reduceIte,↓AA,Nat.reduceAdd,go_sem,Bool.not_true,Bool.not_false];done)|(simp(disch:=first|assumption|omega|(with_reducible rfl)|(simp only[go_sem];done)|(simp only[go_sem];omega)|fail) only[↓reduceIte,↓AA,Nat.reduceAdd,go_sem,Bool.not_true,Bool.not_false];omega)) _ _).trans ?_|fail)
  rfl
 |succ m ih=>
  intro i hi hd
  have h:i<s.length:=by omega
  have ix:Pm (.str s) (.int .i64 (i:Int))=some (.int .u8 (s[i].toNat:Int)):=by rw[Ue,List.getElem?_eq_getElem h];rfl
  by_cases hc:PL s[i]
  ·have hd2:∀c∈s.take (i+1),PL c:=by
    rw[←List.take_append_getElem h]
    intro c hm
    rcases List.mem_append.1 hm with hm|hm
    ·exact hd c hm
    ·rw[List.mem_singleton.1 hm];exact hc
   have ih':=ih (i+1) (by omega) hd2
   rw[Yu h]at ih'
   have hv:=Me (s.take i) 0 hd
   have hp:10^(s.take i).length≤10^9:=Nat.pow_le_pow_right (by omega) (by rw[List.length_take];omega)
   obtain⟨c1,c2⟩:=hc
   have l1:AL .lss (.int .u8 (s[i].toNat:Int)) (.int .u8 48)=some (.bool false):=by rw[b_lss,decide_eq_false (by omega)]
   have g1:AL .gtr (.int .u8 (s[i].toNat:Int)) (.int .u8 57)=some (.bool false):=by rw[b_gtr,decide_eq_false (by omega)]
   have m1:AL .mul (.int .i64 10) (.int .i64 (DY 0 (s.take i):Int))=some (.int .i64 ((DY 0 (s.take i)*10:Nat):Int)):=by
    rw[ABa,Ad (by omega) (by omega)];congr 2;omega
   have s1:AL .sub (.int .u8 (s[i].toNat:Int)) (.int .u8 48)=some (.int .u8 ((s[i].toNat-48:Nat):Int)):=by
    rw[Lr,show((s[i].toNat:Int)-48)=((s[i].toNat-48:Nat):Int)by omega,Xn (by omega) (by omega)]
   have v1:cvI .i64 (.int .u8 ((s[i].toNat-48:Nat):Int))=some (.int .i64 ((s[i].toNat-48:Nat):Int)):=by rw[cvI,Ad (by omega) (by omega)]
   have a1:AL .add (.int .i64 ((DY 0 (s.take i)*10:Nat):Int)) (.int .i64 ((s[i].toNat-48:Nat):Int))=some (.int .i64 ((DY 0 (s.take i)*10+(s[i].toNat-48):Nat):Int)):=by
    rw[DZ,Ad (by omega) (by omega)];rfl
   rw[←ih',Ku]
   clear ih ih'
   generalize DY 0 (s.take i)*10+(s[i].toNat-48)=z at*
   generalize DY 0 (s.take i)*10=y at*
   generalize s[i].toNat-48=x at*
   generalize DY 0 (s.take i)=v at*
   generalize s[i]=c at*
   (repeat' with_reducible first|refine(Af _ _).trans ?_|refine(Aa _ _).trans ?_|refine(AA _ _).trans ?_|refine(AB (by first|rfl|(simp(disch:=first|assumption|omega|(with_reducible rfl)|(simp only[go_sem];done)|(simp only[go_sem];omega)|fail) only[↓reduceIte,↓AA,Nat.reduceAdd,go_sem,Bool.not_true,Bool.not_false,ix,l1,g1,m1,s1,v1,a1];rfl)) _).trans ?_|refine(if_pos (by first|rfl|(simp(disch:=first|assumption|omega|(with_reducible rfl)|(simp only[go_sem];done)|(simp only[go_sem];omega)|fail) only[↓reduceIte,↓AA,Nat.reduceAdd,go_sem,Bool.not_true,Bool.not_false,ix,l1,g1,m1,s1,v1,a1];done))).trans ?_|refine(AQ (by first|assumption|omega|(simp(disch:=first|assumption|omega|(with_reducible rfl)|(simp only[go_sem];done)|(simp only[go_sem];omega)|fail) only[↓reduceIte,↓AA,Nat.reduceAdd,go_sem,Bool.not_true,Bool.not_false,ix,l1,g1,m1,s1,v1,a1];done)|(simp(disch:=first|assumption|omega|(with_reducible rfl)|(simp only[go_sem];done)|(simp only[go_sem];omega)|fail) only[↓reduceIte,↓AA,Nat.reduceAdd,go_sem,Bool.not_true,Bool.not_false,ix,l1,g1,m1,s1,v1,a1];omega)) _ _).trans ?_|refine(AO (by first|assumption|omega|(simp(disch:=first|assumption|omega|(with_reducible rfl)|(simp only[go_sem];done)|(simp only[go_sem];omega)|fail) only[↓reduceIte,↓AA,Nat.reduceAdd,go_sem,Bool.not_true,Bool.not_false,ix,l1,g1,m1,s1,v1,a1];done)|(simp(disch:=first|assumption|omega|(with_reducible rfl)|(simp only[go_sem];done)|(simp only[go_sem];omega)|fail) only[↓reduceIte,↓AA,Nat.reduceAdd,go_sem,Bool.not_true,Bool.not_false,ix,l1,g1,m1,s1,v1,a1];omega)) _ _).trans ?_|fail)
   rfl
  ·rw[if_neg (fun hh=>hc (hh _ (List.getElem_mem h)))]
   unfold PL at hc
   rw[Ku]
   clear ih
   generalize DY 0 (s.take i)=v at*
   generalize s[i]=c at*
   by_cases h48:c.toNat<48
   ·have l1:AL .lss (.int .u8 (c.toNat:Int)) (.int .u8 48)=some (.bool true):=by rw[b_lss,decide_eq_true (by omega)]
    (repeat' with_reducible first|refine(Af _ _).trans ?_|refine(Aa _ _).trans ?_|refine(AA _ _).trans ?_|refine(AB (by first|rfl|(simp(disch:=first|assumption|omega|(with_reducible rfl)|(simp only[go_sem];done)|(simp only[go_sem];omega)|fail) only[↓reduceIte,↓AA,Nat.reduceAdd,go_sem,Bool.not_true,Bool.not_false,ix,l1];rfl)) _).trans ?_|refine(if_pos (by first|rfl|(simp(disch:=first|assumption|omega|(with_reducible rfl)|(simp only[go_sem];done)|(simp only[go_sem];omega)|fail) only[↓reduceIte,↓AA,Nat.reduceAdd,go_sem,Bool.not_true,Bool.not_false,ix,l1];done))).trans ?_|refine(AQ (by first|assumption|omega|(simp(disch:=first|assumption|omega|(with_reducible rfl)|(simp only[go_sem];done)|(simp only[go_sem];omega)|fail) only[↓reduceIte,↓AA,Nat.reduceAdd,go_sem,Bool.not_true,Bool.not_false,ix,l1];done)|(simp(disch:=first|assumption|omega|(with_reducible rfl)|(simp only[go_sem];done)|(simp only[go_sem];omega)|fail) only[↓reduceIte,↓AA,Nat.reduceAdd,go_sem,Bool.not_true,Bool.not_false,ix,l1];omega)) _ _).trans ?_|refine(AO (by first|assumption|omega|(simp(disch:=first|assumption|omega|(with_reducible rfl)|(simp only[go_sem];done)|(simp only[go_sem];omega)|fail) only[↓reduceIte,↓AA,Nat.reduceAdd,go_sem,Bool.not_true,Bool.not_false,ix,l1];done)|(simp(disch:=first|assumption|omega|(with_reducible rfl)|(simp only[go_sem];done)|(simp only[go_sem];omega)|fail) only[↓reduceIte,↓AA,Nat.reduceAdd,go_sem,Bool.not_true,Bool.not_false,ix,l1];omega)) _ _).trans ?_|fail)
    rfl
   ·have l1:AL .lss (.int .u8 (c.toNat:Int)) (.int .u8 48)=some (.bool false):=by rw[b_lss,decide_eq_false (by omega)]
    have g1:AL .gtr (.int .u8 (c.toNat:Int)) (.int .u8 57)=some (.bool true):=by rw[b_gtr,decide_eq_true (by omega)]
    (repeat' with_reducible first|refine(Af _ _).trans ?_|refine(Aa _ _).trans ?_|refine(AA _ _).trans ?_|refine(AB (by first|rfl|(simp(disch:=first|assumption|omega|(with_reducible rfl)|(simp only[go_sem];done)|(simp only[go_sem];omega)|fail) only[↓reduceIte,↓AA,Nat.reduceAdd,go_sem,Bool.not_true,Bool.not_false,ix,l1,g1];rfl)) _).trans ?_|refine(if_pos (by first|rfl|(simp(disch:=first|assumption|omega|(with_reducible rfl)|(simp only[go_sem];done)|(simp only[go_sem];omega)|fail) only[↓reduceIte,↓AA,Nat.reduceAdd,go_sem,Bool.not_true,Bool.not_false,ix,l1,g1];done))).trans ?_|refine(AQ (by first|assumption|omega|(simp(disch:=first|assumption|omega|(with_reducible rfl)|(simp only[go_sem];done)|(simp only[go_sem];omega)|fail) only[↓reduceIte,↓AA,Nat.reduceAdd,go_sem,Bool.not_true,Bool.not_false,ix,l1,g1];done)|(simp(disch:=first|assumption|omega|(with_reducible rfl)|(simp only[go_sem];done)|(simp only[go_sem];omega)|fail) only[↓reduceIte,↓AA,Nat.reduceAdd,go_sem,Bool.not_true,Bool.not_false,ix,l1,g1];omega)) _ _).trans ?_|refine(AO (by first|assumption|omega|(simp(disch:=first|assumption|omega|(with_reducible rfl)|(simp only[go_sem];done)|(simp only[go_sem];omega)|fail) only[↓reduceIte,↓AA,Nat.reduceAdd,go_sem,Bool.not_true,Bool.not_false,ix,l1,g1];done)|(simp(disch:=first|assumption|omega|(with_reducible rfl)|(simp only[go_sem];done)|(simp only[go_sem];omega)|fail) only[↓reduceIte,↓AA,Nat.reduceAdd,go_sem,Bool.not_true,Bool.not_false,ix,l1,g1];omega)) _ _).trans ?_|fail)
    rfl
def MQ (x:List UInt8):Int:=match D8 x with
 |some n=>(n:Int)
 |none=> -1
theorem Yv {x:List UInt8} (hx:x.length≤3000):Cl 39 [.str x,.int .i64 9] []=some (.int .i64 (MQ x),[]):=by
 by_cases h0:x=[]
 ·subst h0
  have e0:AL .eql (.str []) (.str [])=some (.bool true):=rfl
  rw[NT,show MQ []= -1 from rfl]
  (repeat' with_reducible first|refine(Af _ _).trans ?_|refine(Aa _ _).trans ?_|refine(AA _ _).trans ?_|refine(AB (by first|rfl|(simp(disch:=first|assumption|omega|(with_reducible rfl)|(simp only[go_sem];done)|(simp only[go_sem];omega)|fail) only[↓reduceIte,↓AA,Nat.reduceAdd,go_sem,Bool.not_true,Bool.not_false,e0];rfl)) _).trans ?_|refine(if_pos (by first|rfl|(simp(disch:=first|assumption|omega|(with_reducible rfl)|(simp only[go_sem];done)|(simp only[go_sem];omega)|fail) only[↓reduceIte,↓AA,Nat.reduceAdd,go_sem,Bool.not_true,Bool.not_false,e0];done))).trans ?_|refine(AQ (by first|assumption|omega|(simp(disch:=first|assumption|omega|(with_reducible rfl)|(simp only[go_sem];done)|(simp only[go_sem];omega)|fail) only[↓reduceIte,↓AA,Nat.reduceAdd,go_sem,Bool.not_true,Bool.not_false,e0];done)|(simp(disch:=first|assumption|omega|(with_reducible rfl)|(simp only[go_sem];done)|(simp only[go_sem];omega)|fail) only[↓reduceIte,↓AA,Nat.reduceAdd,go_sem,Bool.not_true,Bool.not_false,e0];omega)) _ _).trans ?_|refine(AO (by first|assumption|omega|(simp(disch:=first|assumption|omega|(with_reducible rfl)|(simp only[go_sem];done)|(simp only[go_sem];omega)|fail) only[↓reduceIte,↓AA,Nat.reduceAdd,go_sem,Bool.not_true,Bool.not_false,e0];done)|(simp(disch:=first|assumption|omega|(with_reducible rfl)|(simp only[go_sem];done)|(simp only[go_sem];omega)|fail) only[↓reduceIte,↓AA,Nat.reduceAdd,go_sem,Bool.not_true,Bool.not_false,e0];omega)) _ _).trans ?_|fail)
  rfl
 ·have e0:AL .eql (.str x) (.str [])=some (.bool false):=by simp[AL,h0]
  by_cases h9:9<x.length
  ·have hn:MQ x= -1:=by
    unfold MQ D8
    rw[if_neg (fun h=>by omega)]
   have g1:AL .gtr (.int .i64 (x.length:Int)) (.int .i64 9)=some (.bool true):=by rw[b_gtr,decide_eq_true (by omega)]
   rw[NT,hn]
   (repeat' with_reducible first|refine(Af _ _).trans ?_|refine(Aa _ _).trans ?_|refine(AA _ _).trans ?_|refine(AB (by first|rfl|(simp(disch:=first|assumption|omega|(with_reducible rfl)|(simp only[go_sem];done)|(simp only[go_sem];omega)|fail) only[↓reduceIte,↓AA,Nat.reduceAdd,go_sem,Bool.not_true,Bool.not_false,e0,g1];rfl)) _).trans ?_|refine(if_pos (by first|rfl|(simp(disch:=first|assumption|omega|(with_reducible rfl)|(simp only[go_sem];done)|(simp only[go_sem];omega)|fail) only[↓reduceIte,↓AA,Nat.reduceAdd,go_sem,Bool.not_true,Bool.not_false,e0,g1];done))).trans ?_|refine(AQ (by first|assumption|omega|(simp(disch:=first|assumption|omega|(with_reducible rfl)|(simp only[go_sem];done)|(simp only[go_sem];omega)|fail) only[↓reduceIte,↓AA,Nat.reduceAdd,go_sem,Bool.not_true,Bool.not_false,e0,g1];done)|(simp(disch:=first|assumption|omega|(with_reducible rfl)|(simp only[go_sem];done)|(simp only[go_sem];omega)|fail) only[↓reduceIte,↓AA,Nat.reduceAdd,go_sem,Bool.not_true,Bool.not_false,e0,g1];omega)) _ _).trans ?_|refine(AO (by first|assumption|omega|(simp(disch:=first|assumption|omega|(with_reducible rfl)|(simp only[go_sem];done)|(simp only[go_sem];omega)|fail) only[↓reduceIte,↓AA,Nat.reduceAdd,go_sem,Bool.not_true,Bool.not_false,e0,g1];done)|(simp(disch:=first|assumption|omega|(with_reducible rfl)|(simp only[go_sem];done)|(simp only[go_sem];omega)|fail) only[↓reduceIte,↓AA,Nat.reduceAdd,go_sem,Bool.not_true,Bool.not_false,e0,g1];omega)) _ _).trans ?_|fail)
   rfl
  ·have g1:AL .gtr (.int .i64 (x.length:Int)) (.int .i64 9)=some (.bool false):=by rw[b_gtr,decide_eq_false (by omega)]
   have h:=ACA (s:=x) (by omega) x.length 0 (by omega) (by simp)
   rw[List.take_zero,show DY 0 []=0 from rfl]at h
   have key:(1<x.length→x.head?≠some 48)→(if ∀c∈x,PL c then(DY 0 x:Int)else -1)=MQ x:=by
    intro hh
    unfold MQ D8
    by_cases hd:∀c∈x,PL c
    ·rw[if_pos hd,if_pos ⟨h0,by omega,hd,hh⟩]
    ·rw[if_neg hd,if_neg (fun h=>hd h.2.2.1)]
   by_cases h1:1<x.length
   ·have g2:AL .gtr (.int .i64 (x.length:Int)) (.int .i64 1)=some (.bool true):=by rw[b_gtr,decide_eq_true (by omega)]
    obtain⟨c,r,rfl⟩:∃c r,x=c::r:=by
     match x,h0 with
     |c::r,_=>exact⟨c,r,rfl⟩
    have x0:Pm (.str (c::r)) (.int .i64 0)=some (.int .u8 (c.toNat:Int)):=by rw[AHg];rfl
    by_cases hc:c=48
    ·have hn:MQ (c::r)= -1:=by
      unfold MQ D8
      rw[if_neg (fun h=>h.2.2.2 h1 (by rw[hc];rfl))]
     have e1:AL .eql (.int .u8 (c.toNat:Int)) (.int .u8 48)=some (.bool true):=by rw[hc];rfl
     rw[NT,hn]
     clear h key hn
     generalize c::r=x at*
     (repeat' with_reducible first|refine(Af _ _).trans ?_|refine(Aa _ _).trans ?_|refine(AA _ _).trans ?_|refine(AB (by first|rfl|(simp(disch:=first|assumption|omega|(with_reducible rfl)|(simp only[go_sem];done)|(simp only[go_sem];omega)|fail) only[↓reduceIte,↓AA,Nat.reduceAdd,go_sem,Bool.not_true,Bool.not_false,e0,g1,g2,x0,e1];rfl)) _).trans ?_|refine(if_pos (by first|rfl|(simp(disch:=first|assumption|omega|(with_reducible rfl)|(simp only[go_sem];done)|(simp only[go_sem];omega)|fail) only[↓reduceIte,↓AA,Nat.reduceAdd,go_sem,Bool.not_true,Bool.not_false,e0,g1,g2,x0,e1];done))).trans ?_|refine(AQ (by first|assumption|omega|(simp(disch:=first|assumption|omega|(with_reducible rfl)|(simp only[go_sem];done)|(simp only[go_sem];omega)|fail) only[↓reduceIte,↓AA,Nat.reduceAdd,go_sem,Bool.not_true,Bool.not_false,e0,g1,g2,x0,e1];done)|(simp(disch:=first|assumption|omega|(with_reducible rfl)|(simp only[go_sem];done)|(simp only[go_sem];omega)|fail) only[↓reduceIte,↓AA,Nat.reduceAdd,go_sem,Bool.not_true,Bool.not_false,e0,g1,g2,x0,e1];omega)) _ _).trans ?_|refine(AO (by first|assumption|omega|(simp(disch:=first|assumption|omega|(with_reducible rfl)|(simp only[go_sem];done)|(simp only[go_sem];omega)|fail) only[↓reduceIte,↓AA,Nat.reduceAdd,go_sem,Bool.not_true,Bool.not_false,e0,g1,g2,x0,e1];done)|(simp(disch:=first|assumption|omega|(with_reducible rfl)|(simp only[go_sem];done)|(simp only[go_sem];omega)|fail) only[↓reduceIte,↓AA,Nat.reduceAdd,go_sem,Bool.not_true,Bool.not_false,e0,g1,g2,x0,e1];omega)) _ _).trans ?_|fail)
     rfl
    ·have e1:AL .eql (.int .u8 (c.toNat:Int)) (.int .u8 48)=some (.bool false):=by
      rw[b_eql,decide_eq_false (fun e=>hc (UInt8.toNat_inj.1 (by have:(48:UInt8).toNat=48:=rfl;omega)))]
     rw[key (fun _=>by simpa using hc)]at h
     rw[←h,NT]
     clear h key
     generalize c::r=x at*
     (repeat' with_reducible first|refine(Af _ _).trans ?_|refine(Aa _ _).trans ?_|refine(AA _ _).trans ?_|refine(AB (by first|rfl|(simp(disch:=first|assumption|omega|(with_reducible rfl)|(simp only[go_sem];done)|(simp only[go_sem];omega)|fail) only[↓reduceIte,↓AA,Nat.reduceAdd,go_sem,Bool.not_true,Bool.not_false,e0,g1,g2,x0,e1];rfl)) _).trans ?_|refine(if_pos (by first|rfl|(simp(disch:=first|assumption|omega|(with_reducible rfl)|(simp only[go_sem];done)|(simp only[go_sem];omega)|fail) only[↓reduceIte,↓AA,Nat.reduceAdd,go_sem,Bool.not_true,Bool.not_false,e0,g1,g2,x0,e1];done))).trans ?_|refine(AQ (by first|assumption|omega|(simp(disch:=first|assumption|omega|(with_reducible rfl)|(simp only[go_sem];done)|(simp only[go_sem];omega)|fail) only[↓reduceIte,↓AA,Nat.reduceAdd,go_sem,Bool.not_true,Bool.not_false,e0,g1,g2,x0,e1];done)|(simp(disch:=first|assumption|omega|(with_reducible rfl)|(simp only[go_sem];done)|(simp only[go_sem];omega)|fail) only[↓reduceIte,↓AA,Nat.reduceAdd,go_sem,Bool.not_true,Bool.not_false,e0,g1,g2,x0,e1];omega)) _ _).trans ?_|refine(AO (by first|assumption|omega|(simp(disch:=first|assumption|omega|(with_reducible rfl)|(simp only[go_sem];done)|(simp only[go_sem];omega)|fail) only[↓reduceIte,↓AA,Nat.reduceAdd,go_sem,Bool.not_true,Bool.not_false,e0,g1,g2,x0,e1];done)|(simp(disch:=first|assumption|omega|(with_reducible rfl)|(simp only[go_sem];done)|(simp only[go_sem];omega)|fail) only[↓reduceIte,↓AA,Nat.reduceAdd,go_sem,Bool.not_true,Bool.not_false,e0,g1,g2,x0,e1];omega)) _ _).trans ?_|fail)
     rfl
   ·have g2:AL .gtr (.int .i64 (x.length:Int)) (.int .i64 1)=some (.bool false):=by rw[b_gtr,decide_eq_false (by omega)]
    rw[key (fun hh=>absurd hh h1)]at h
    rw[←h,NT]
    clear h key
    (repeat' with_reducible first|refine(Af _ _).trans ?_|refine(Aa _ _).trans ?_|refine(AA _ _).trans ?_|refine(AB (by first|rfl|(simp(disch:=first|assumption|omega|(with_reducible rfl)|(simp only[go_sem];done)|(simp only[go_sem];omega)|fail) only[↓reduceIte,↓AA,Nat.reduceAdd,go_sem,Bool.not_true,Bool.not_false,e0,g1,g2];rfl)) _).trans ?_|refine(if_pos (by first|rfl|(simp(disch:=first|assumption|omega|(with_reducible rfl)|(simp only[go_sem];done)|(simp only[go_sem];omega)|fail) only[↓reduceIte,↓AA,Nat.reduceAdd,go_sem,Bool.not_true,Bool.not_false,e0,g1,g2];done))).trans ?_|refine(AQ (by first|assumption|omega|(simp(disch:=first|assumption|omega|(with_reducible rfl)|(simp only[go_sem];done)|(simp only[go_sem];omega)|fail) only[↓reduceIte,↓AA,Nat.reduceAdd,go_sem,Bool.not_true,Bool.not_false,e0,g1,g2];done)|(simp(disch:=first|assumption|omega|(with_reducible rfl)|(simp only[go_sem];done)|(simp only[go_sem];omega)|fail) only[↓reduceIte,↓AA,Nat.reduceAdd,go_sem,Bool.not_true,Bool.not_false,e0,g1,g2];omega)) _ _).trans ?_|refine(AO (by first|assumption|omega|(simp(disch:=first|assumption|omega|(with_reducible rfl)|(simp only[go_sem];done)|(simp only[go_sem];omega)|fail) only[↓reduceIte,↓AA,Nat.reduceAdd,go_sem,Bool.not_true,Bool.not_false,e0,g1,g2];done)|(simp(disch:=first|assumption|omega|(with_reducible rfl)|(simp only[go_sem];done)|(simp only[go_sem];omega)|fail) only[↓reduceIte,↓AA,Nat.reduceAdd,go_sem,Bool.not_true,Bool.not_false,e0,g1,g2];omega)) _ _).trans ?_|fail)
    rfl
def UB (w:List UInt8):List (List UInt8)→List (List UInt8)
 |[]=>[w]
 |p::ps=>(w++p)::ps
theorem U4 {ps:List (List UInt8)} (h:ps≠[]):UB [] ps=ps:=by
 match ps,h with
 |p::ps,_=>rfl
@[go_sem] theorem AIJ (l:List (List UInt8)):(l.map V.str).all tyS=true:=all_map (fun _=>rfl) l
theorem ACB {s:List UInt8} (hs:s.length≤3000):∀(m i:Nat) (out:List (List UInt8)) (w:List UInt8),i+m=s.length→w.length≤i→out.length≤i→
 NS (.str s) (.lst 9 .own (out.map V.str)) (.str w) (.int .i64 (i:Int))=some (.lst 9 .sh ((out++UB w (BD (s.drop i))).map V.str),[]):=by
 intro m
 induction m with
 |zero=>
  intro i out w hi hw ho
  rw[List.drop_eq_nil_of_le (by omega),show UB w (BD [])=[w]from by simp[BD,UB],Kr,List.map_append,List.map_cons,List.map_nil]
  (repeat' with_reducible first|refine(Af _ _).trans ?_|refine(Aa _ _).trans ?_|refine(AA _ _).trans ?_|refine(AB (by first|rfl|(simp(disch:=first|assumption|omega|(with_reducible rfl)|(simp only[go_sem];done)|(simp only[go_sem];omega)|fail) only[↓reduceIte,↓AA,Nat.reduceAdd,go_sem,Bool.not_true,Bool.not_false];rfl)) _).trans ?_|refine(if_pos (by first|rfl|(simp(disch:=first|assumption|omega|(with_reducible rfl)|(simp only[go_sem];done)|(simp only[go_sem];omega)|fail) only[↓reduceIte,↓AA,Nat.reduceAdd,go_sem,Bool.not_true,Bool.not_false];done))).trans ?_|refine(AQ (by first|assumption|omega|(simp(disch:=first|assumption|omega|(with_reducible rfl)|(simp only[go_sem];done)|(simp only[go_sem];omega)|fail) only[↓reduceIte,↓AA,Nat.reduceAdd,go_sem,Bool.not_true,Bool.not_false];done)|(simp(disch:=first|assumption|omega|(with_reducible rfl)|(simp only[go_sem];done)|(simp only[go_sem];omega)|fail) only[↓reduceIte,↓AA,Nat.reduceAdd,go_sem,Bool.not_true,Bool.not_false];omega)) _ _).trans ?_|refine(AO (by first|assumption|omega|(simp(disch:=first|assumption|omega|(with_reducible rfl)|(simp only[go_sem];done)|(simp only[go_sem];omega)|fail) only[↓reduceIte,↓AA,Nat.reduceAdd,go_sem,Bool.not_true,Bool.not_false];done)|(simp(disch:=first|assumption|omega|(with_reducible rfl)|(simp only[go_sem];done)|(simp only[go_sem];omega)|fail) only[↓reduceIte,↓AA,Nat.reduceAdd,go_sem,Bool.not_true,Bool.not_false];omega)) _ _).trans ?_|fail)
  rfl
 |succ m ih=>
  intro i out w hi hw ho
  have h:i<s.length:=by omega
  have ix:Pm (.str s) (.int .i64 (i:Int))=some (.int .u8 (s[i].toNat:Int)):=by rw[Ue,List.getElem?_eq_getElem h];rfl
  have ad:AL .add (.int .i64 (i:Int)) (.int .i64 1)=some (.int .i64 ((i+1:Nat):Int)):=by
   rw[DZ,Ad (by omega) (by omega)];rfl
  have hn:=EK (s.drop (i+1))
  by_cases hc:s[i]=32
  ·have e1:AL .eql (.int .u8 (s[i].toNat:Int)) (.int .u8 32)=some (.bool true):=by rw[hc];rfl
   have ih':=ih (i+1) (out++[w]) [] (by omega) (by simp) (by simp;omega)
   rw[U4 hn]at ih'
   have hd:out++UB w (BD (s.drop i))=out++[w]++BD (s.drop (i+1)):=by
    rw[List.drop_eq_getElem_cons h,hc,BD,if_pos rfl];simp[UB]
   rw[hd,←ih',Kr,List.map_append,List.map_cons,List.map_nil]
   clear ih ih'
   generalize s[i]=c at*
   (repeat' with_reducible first|refine(Af _ _).trans ?_|refine(Aa _ _).trans ?_|refine(AA _ _).trans ?_|refine(AB (by first|rfl|(simp(disch:=first|assumption|omega|(with_reducible rfl)|(simp only[go_sem];done)|(simp only[go_sem];omega)|fail) only[↓reduceIte,↓AA,Nat.reduceAdd,go_sem,Bool.not_true,Bool.not_false,ix,ad,e1];rfl)) _).trans ?_|refine(if_pos (by first|rfl|(simp(disch:=first|assumption|omega|(with_reducible rfl)|(simp only[go_sem];done)|(simp only[go_sem];omega)|fail) only[↓reduceIte,↓AA,Nat.reduceAdd,go_sem,Bool.not_true,Bool.not_false,ix,ad,e1];done))).trans ?_|refine(AQ (by first|assumption|omega|(simp(disch:=first|assumption|omega|(with_reducible rfl)|(simp only[go_sem];done)|(simp only[go_sem];omega)|fail) only[↓reduceIte,↓AA,Nat.reduceAdd,go_sem,Bool.not_true,Bool.not_false,ix,ad,e1];done)|(simp(disch:=first|assumption|omega|(with_reducible rfl)|(simp only[go_sem];done)|(simp only[go_sem];omega)|fail) only[↓reduceIte,↓AA,Nat.reduceAdd,go_sem,Bool.not_true,Bool.not_false,ix,ad,e1];omega)) _ _).trans ?_|refine(AO (by first|assumption|omega|(simp(disch:=first|assumption|omega|(with_reducible rfl)|(simp only[go_sem];done)|(simp only[go_sem];omega)|fail) only[↓reduceIte,↓AA,Nat.reduceAdd,go_sem,Bool.not_true,Bool.not_false,ix,ad,e1];done)|(simp(disch:=first|assumption|omega|(with_reducible rfl)|(simp only[go_sem];done)|(simp only[go_sem];omega)|fail) only[↓reduceIte,↓AA,Nat.reduceAdd,go_sem,Bool.not_true,Bool.not_false,ix,ad,e1];omega)) _ _).trans ?_|fail)
   rfl
  ·have e1:AL .eql (.int .u8 (s[i].toNat:Int)) (.int .u8 32)=some (.bool false):=by
    rw[b_eql,decide_eq_false (fun e=>hc (UInt8.toNat_inj.1 (by have:(32:UInt8).toNat=32:=rfl;omega)))]
   have ih':=ih (i+1) out (w++[s[i]]) (by omega) (by simp;omega) (by omega)
   have hd:UB w (BD (s.drop i))=UB (w++[s[i]]) (BD (s.drop (i+1))):=by
    rw[List.drop_eq_getElem_cons h,BD,if_neg hc]
    match BD (s.drop (i+1)),hn with
    |p::ps,_=>simp[UB]
   have sl:UO (.str s) (some (.int .i64 (i:Int))) (some (.int .i64 ((i+1:Nat):Int)))=some (.str [s[i]]):=by
    rw[Uf (by omega) (by omega),←List.take_append_getElem h,List.drop_left' (by rw[List.length_take];omega)]
   have aw:AL .add (.str w) (.str [s[i]])=some (.str (w++[s[i]])):=QS _ _ (by simp;omega)
   rw[hd,←ih',Kr]
   clear ih ih' hd
   generalize w++[s[i]]=w2 at*
   generalize s[i]=c at*
   (repeat' with_reducible first|refine(Af _ _).trans ?_|refine(Aa _ _).trans ?_|refine(AA _ _).trans ?_|refine(AB (by first|rfl|(simp(disch:=first|assumption|omega|(with_reducible rfl)|(simp only[go_sem];done)|(simp only[go_sem];omega)|fail) only[↓reduceIte,↓AA,Nat.reduceAdd,go_sem,Bool.not_true,Bool.not_false,ix,ad,e1,sl,aw];rfl)) _).trans ?_|refine(if_pos (by first|rfl|(simp(disch:=first|assumption|omega|(with_reducible rfl)|(simp only[go_sem];done)|(simp only[go_sem];omega)|fail) only[↓reduceIte,↓AA,Nat.reduceAdd,go_sem,Bool.not_true,Bool.not_false,ix,ad,e1,sl,aw];done))).trans ?_|refine(AQ (by first|assumption|omega|(simp(disch:=first|assumption|omega|(with_reducible rfl)|(simp only[go_sem];done)|(simp only[go_sem];omega)|fail) only[↓reduceIte,↓AA,Nat.reduceAdd,go_sem,Bool.not_true,Bool.not_false,ix,ad,e1,sl,aw];done)|(simp(disch:=first|assumption|omega|(with_reducible rfl)|(simp only[go_sem];done)|(simp only[go_sem];omega)|fail) only[↓reduceIte,↓AA,Nat.reduceAdd,go_sem,Bool.not_true,Bool.not_false,ix,ad,e1,sl,aw];omega)) _ _).trans ?_|refine(AO (by first|assumption|omega|(simp(disch:=first|assumption|omega|(with_reducible rfl)|(simp only[go_sem];done)|(simp only[go_sem];omega)|fail) only[↓reduceIte,↓AA,Nat.reduceAdd,go_sem,Bool.not_true,Bool.not_false,ix,ad,e1,sl,aw];done)|(simp(disch:=first|assumption|omega|(with_reducible rfl)|(simp only[go_sem];done)|(simp only[go_sem];omega)|fail) only[↓reduceIte,↓AA,Nat.reduceAdd,go_sem,Bool.not_true,Bool.not_false,ix,ad,e1,sl,aw];omega)) _ _).trans ?_|fail)
   rfl
theorem ACC {s:List UInt8} (hs:s.length≤3000):Cl 38 [.str s] []=some (.lst 9 .sh ((BD s).map V.str),[]):=by
 have h:=ACB hs s.length 0 [] [] (by omega) (by simp) (by simp)
 rw[List.drop_zero,U4 (EK s),List.nil_append,List.map_nil]at h
 rw[←h,AFI]
 (repeat' with_reducible first|refine(Af _ _).trans ?_|refine(Aa _ _).trans ?_|refine(AA _ _).trans ?_|refine(AB (by first|rfl|(simp(disch:=first|assumption|omega|(with_reducible rfl)|(simp only[go_sem];done)|(simp only[go_sem];omega)|fail) only[↓reduceIte,↓AA,Nat.reduceAdd,go_sem,Bool.not_true,Bool.not_false];rfl)) _).trans ?_|refine(if_pos (by first|rfl|(simp(disch:=first|assumption|omega|(with_reducible rfl)|(simp only[go_sem];done)|(simp only[go_sem];omega)|fail) only[↓reduceIte,↓AA,Nat.reduceAdd,go_sem,Bool.not_true,Bool.not_false];done))).trans ?_|refine(AQ (by first|assumption|omega|(simp(disch:=first|assumption|omega|(with_reducible rfl)|(simp only[go_sem];done)|(simp only[go_sem];omega)|fail) only[↓reduceIte,↓AA,Nat.reduceAdd,go_sem,Bool.not_true,Bool.not_false];done)|(simp(disch:=first|assumption|omega|(with_reducible rfl)|(simp only[go_sem];done)|(simp only[go_sem];omega)|fail) only[↓reduceIte,↓AA,Nat.reduceAdd,go_sem,Bool.not_true,Bool.not_false];omega)) _ _).trans ?_|refine(AO (by first|assumption|omega|(simp(disch:=first|assumption|omega|(with_reducible rfl)|(simp only[go_sem];done)|(simp only[go_sem];omega)|fail) only[↓reduceIte,↓AA,Nat.reduceAdd,go_sem,Bool.not_true,Bool.not_false];done)|(simp(disch:=first|assumption|omega|(with_reducible rfl)|(simp only[go_sem];done)|(simp only[go_sem];omega)|fail) only[↓reduceIte,↓AA,Nat.reduceAdd,go_sem,Bool.not_true,Bool.not_false];omega)) _ _).trans ?_|fail)
 rfl
end
section
open Go AM
abbrev ACD (n:Nat):Option (V×List V):=some (Yt (⟨0,[]⟩,n,52),[])
theorem OL:∀(a:List (List UInt8)) (x:List UInt8),CZ (a++[x])=(CZ a).bind fun l=>(D8 x).map fun n=>l++[n]
 |[],x=>by simp only[List.nil_append,CZ];cases D8 x<;>rfl
 |y::a,x=>by
  rw[List.cons_append,CZ,OL a x,CZ]
  cases D8 y with
  |none=>rfl
  |some m=>cases CZ a with
   |none=>rfl
   |some l=>cases D8 x<;>rfl
theorem AIK {s:List UInt8} {n fr m0:Nat} {N:Int} {f:Fl} {acc:List E0} {p:List UInt8} {ps:List (List UInt8)} (hp:∀x∈ps,x.length≤3000) (hk:ps.length≤3000) (hf:f= .own∨f= .nil):∀(m i:Nat) (l:List Nat),i+m=ps.length→CZ (ps.take i)=some l→
 Fa (.str s) (.ref 0 [] 24) (.ref 1 [] 24) (.int .i64 (fr:Int)) (.int .i64 (n:Int)) (.lst 9 .sh ((p::ps).map V.str)) (DN .own l) (.int .i64 ((i+1:Nat):Int)) m0 (Eg N f acc)=
  match CZ ps with
  |none=>ACD n
  |some ns=>Fa (.str s) (.ref 0 [] 24) (.ref 1 [] 24) (.int .i64 (fr:Int)) (.int .i64 (n:Int)) (.lst 9 .sh ((p::ps).map V.str)) (DN .own ns) (.int .i64 ((ps.length+1:Nat):Int)) m0 (Eg N f acc):=by
 intro m
 induction m with
 |zero=>
  intro i l hi hl
  rw[List.take_of_length_le (by omega)]at hl
  rw[hl,show i=ps.length by omega]
 |succ m ih=>
  intro i l hi hl
  have h:i<ps.length:=by omega
  have hx:((p::ps).map V.str)[i+1]?=some (.str ps[i]):=by simp[h]
  have nu:=Yv (hp _ (List.getElem_mem h))
  have hll:l.length≤3000:=by
   have:=(EU hl).2
   have:=congrArg List.length this
   rw[List.length_take,List.length_map]at this;omega
  have ll:Jr (V.weak (.lst 9 .sh ((p::ps).map V.str)))=some (.int .i64 ((ps.length+1:Nat):Int)):=by
   have:((p::ps).map V.str).length=ps.length+1:=by simp
   rw[←this];rfl
  have ix:D6 9 (V.weak (.lst 9 .sh ((p::ps).map V.str))) (.int .i64 ((i+1:Nat):Int))=some (.rop 9 (.str ps[i])):=X5 (f:= .sh) hx .i64
  have ls:AL .lss (.int .i64 ((i+1:Nat):Int)) (.int .i64 ((ps.length+1:Nat):Int))=some (.bool true):=by rw[b_lss,decide_eq_true (by omega)]
  cases hn:D8 ps[i]with
  |none=>
   have hv:MQ ps[i]= -1:=by unfold MQ;rw[hn]
   rw[hv]at nu
   rw[Jd (List.getElem_mem h) hn,Dk]
   clear ih hl
   have l0:AL .lss (.int .i64 (-1)) (.int .i64 0)=some (.bool true):=rfl
   generalize (p::ps).map V.str=W at*
   generalize ps[i]=d at*
   generalize ps.length+1=L at*
   refine(AB ll _).trans ?_
   refine(AB ls _).trans ?_
   rw[Af]
   refine(AB ix _).trans ?_
   rcases hf with rfl|rfl
   all_goals (repeat' with_reducible first|refine(Af _ _).trans ?_|refine(Aa _ _).trans ?_|refine(AA _ _).trans ?_|((first|(refine' (AB ?_ _).trans ?_;rotate_left)|refine(if_pos ?_).trans ?_|refine(AQ ?_ _ _).trans ?_);focus (first|rfl|(simp(disch:=first|assumption|omega|with_reducible rfl|(simp only[go_sem]<;>omega)|fail) only[↓reduceIte,↓AA,Nat.reduceAdd,go_sem,Bool.not_true,Bool.not_false,nu,l0]<;>first|rfl|omega)|assumption|omega))|(refine(AO ?_ _ _).trans ?_;focus (first|(simp(disch:=first|assumption|omega|with_reducible rfl|(simp only[go_sem]<;>omega)|fail) only[↓reduceIte,↓AA,Nat.reduceAdd,go_sem,Bool.not_true,Bool.not_false,nu,l0]<;>omega)|assumption|omega))|fail)
   all_goals rfl
  |some k=>
   have hv:MQ ps[i]=(k:Int):=by unfold MQ;rw[hn]
   rw[hv]at nu
   have ih':=ih (i+1) (l++[k]) (by omega) (by rw[←List.take_append_getElem h,OL,hl,hn];rfl)
   rw[show DN .own (l++[k])= .lst 3 .own ((l.map fun(v:Nat)=>V.int .i64 (v:Int))++[.int .i64 (k:Int)])from by simp[DN]]at ih'
   rw[←ih',Dk]
   clear ih ih' hl
   have l0:AL .lss (.int .i64 (k:Int)) (.int .i64 0)=some (.bool false):=by rw[b_lss,decide_eq_false (by omega)]
   have ad:AL .add (.int .i64 ((i+1:Nat):Int)) (.int .i64 1)=some (.int .i64 ((i+1+1:Nat):Int)):=by
    rw[DZ,Ad (by omega) (by omega)];rfl
   generalize (p::ps).map V.str=W at*
   generalize ps[i]=d at*
   generalize ps.length+1=L at*
   generalize (i+1+1)=j at*
   refine(AB ll _).trans ?_
   refine(AB ls _).trans ?_
   rw[Af]
   refine(AB ix _).trans ?_
   (repeat' with_reducible first|refine(Af _ _).trans ?_|refine(Aa _ _).trans ?_|refine(AA _ _).trans ?_|((first|(refine' (AB ?_ _).trans ?_;rotate_left)|refine(if_pos ?_).trans ?_|refine(AQ ?_ _ _).trans ?_);focus (first|rfl|(simp(disch:=first|assumption|omega|with_reducible rfl|(simp only[go_sem]<;>omega)|fail) only[↓reduceIte,↓AA,Nat.reduceAdd,go_sem,Bool.not_true,Bool.not_false,nu,l0,ad]<;>first|rfl|omega)|assumption|omega))|(refine(AO ?_ _ _).trans ?_;focus (first|(simp(disch:=first|assumption|omega|with_reducible rfl|(simp only[go_sem]<;>omega)|fail) only[↓reduceIte,↓AA,Nat.reduceAdd,go_sem,Bool.not_true,Bool.not_false,nu,l0,ad]<;>omega)|assumption|omega))|fail)
   rfl
theorem AEq {s:List UInt8} (hs:s.length≤3000) {n fr m0:Nat} {h:List V} {x y:V} {l r:List UInt8} (he:s.drop fr=l++r) (hl:(10:UInt8)∉l):∀(m j:Nat),j+m=l.length→
 GR (.str s) x y (.int .i64 (fr:Int)) (.int .i64 (n:Int)) (.int .i64 ((fr+j:Nat):Int)) m0 h=GR (.str s) x y (.int .i64 (fr:Int)) (.int .i64 (n:Int)) (.int .i64 ((fr+l.length:Nat):Int)) m0 h:=by
 intro m
 induction m with
 |zero=>intro j hj;rw[show j=l.length by omega]
 |succ m ih=>
  intro j hj
  have hjl:j<l.length:=by omega
  have hlen:l.length+r.length+fr=s.length∨s.length<fr:=by
   have:=congrArg List.length he
   rw[List.length_drop,List.length_append]at this;omega
  have hlen:l.length+r.length+fr=s.length:=by
   rcases hlen with h|h
   ·exact h
   ·rw[List.drop_eq_nil_of_le (by omega)]at he
    have:=congrArg List.length he
    rw[List.length_append]at this;simp at this;omega
  have hg:s[fr+j]?=some l[j]:=by
   rw[←List.getElem?_drop,he,List.getElem?_append_left hjl,List.getElem?_eq_getElem hjl]
  have ix:Pm (.str s) (.int .i64 ((fr+j:Nat):Int))=some (.int .u8 (l[j].toNat:Int)):=by rw[Ue,hg];rfl
  have hc:l[j]≠10:=fun e=>hl (e▸List.getElem_mem hjl)
  have ne:AL .neq (.int .u8 (l[j].toNat:Int)) (.int .u8 10)=some (.bool true):=by
   rw[b_neq]
   have:¬((l[j].toNat:Int)=10):=fun e=>hc (UInt8.toNat_inj.1 (by have:(10:UInt8).toNat=10:=rfl;omega))
   simp[this]
  have ls:AL .lss (.int .i64 ((fr+j:Nat):Int)) (.int .i64 (s.length:Int))=some (.bool true):=by rw[b_lss,decide_eq_true (by omega)]
  have ad:AL .add (.int .i64 ((fr+j:Nat):Int)) (.int .i64 1)=some (.int .i64 ((fr+(j+1):Nat):Int)):=by
   rw[DZ,Ad (by omega) (by omega)];rfl
  rw[←ih (j+1) (by omega),Kq]
  clear ih he hg
  generalize l[j]=c at*
  generalize fr+(j+1)=z at*
  generalize fr+j=q at*
  (repeat' with_reducible first|refine(Af _ _).trans ?_|refine(Aa _ _).trans ?_|refine(AA _ _).trans ?_|((first|(refine' (AB ?_ _).trans ?_;rotate_left)|refine(if_pos ?_).trans ?_|refine(AQ ?_ _ _).trans ?_);focus (first|rfl|(simp(disch:=first|assumption|omega|with_reducible rfl|(simp only[go_sem]<;>omega)|fail) only[↓reduceIte,↓AA,Nat.reduceAdd,go_sem,Bool.not_true,Bool.not_false,ix,ne,ls,ad]<;>first|rfl|omega)|assumption|omega))|(refine(AO ?_ _ _).trans ?_;focus (first|(simp(disch:=first|assumption|omega|with_reducible rfl|(simp only[go_sem]<;>omega)|fail) only[↓reduceIte,↓AA,Nat.reduceAdd,go_sem,Bool.not_true,Bool.not_false,ix,ne,ls,ad]<;>omega)|assumption|omega))|fail)
  rfl
theorem Ip {e:TypeId} {f:Fl} {xs:List V} {x:V} (h:xs[0]?=some x) (k:IntKind):D6 e (.lst e f xs) (.int k 0)=some (.rop e x):=by
 have:=QU e f xs k 0
 rw[h]at this
 exact this
theorem Qg {s:List UInt8} {fr:Nat} {l r:List UInt8} (he:s.drop fr=l++10::r):s.drop (fr+l.length+1)=r:=by
 have:s.drop (fr+l.length+1)=(s.drop fr).drop (l.length+1):=by rw[List.drop_drop];congr 1
 rw[this,he,show l++10::r=(l++[10])++r by simp,List.drop_left' (by simp)]
theorem Yw {s:List UInt8} {fr:Nat} {l r:List UInt8} (he:s.drop fr=l++r) (hf:fr≤s.length):(s.take (fr+l.length)).drop fr=l:=by
 rw[List.drop_take,show fr+l.length-fr=l.length by omega,he,List.take_left' rfl]
theorem X6 {s:List UInt8} (hs:s.length≤2500) {n fr m0:Nat} {N:Int} {f:Fl} {acc:List E0} (hf:f= .own∨f= .nil) {l r:List UInt8} (he:s.drop fr=l++10::r) (hl:(10:UInt8)∉l) {p:List UInt8} {ps:List (List UInt8)} (hp:BD l=p::ps):
 GR (.str s) (.ref 0 [] 24) (.ref 1 [] 24) (.int .i64 (fr:Int)) (.int .i64 (n:Int)) (.int .i64 (fr:Int)) m0 (Eg N f acc)=
  match CZ ps with
  |none=>ACD n
  |some ns=>Fa (.str s) (.ref 0 [] 24) (.ref 1 [] 24) (.int .i64 ((fr+l.length+1:Nat):Int)) (.int .i64 (n:Int)) (.lst 9 .sh ((p::ps).map V.str)) (DN .own ns) (.int .i64 ((ps.length+1:Nat):Int)) m0 (Eg N f acc):=by
 have hlen:l.length+r.length+1+fr=s.length:=by
  have:=congrArg List.length he
  rw[List.length_drop,List.length_append,List.length_cons]at this;omega
 have h2:=AEq (s:=s) (fr:=fr) (by omega) (n:=n) (m0:=m0) (h:=Eg N f acc) (x:= .ref 0 [] 24) (y:= .ref 1 [] 24) he hl l.length 0 (by omega)
 rw[Nat.add_zero]at h2
 have sl:=Qd l
 rw[hp,List.length_cons]at sl
 have hpl:∀x∈ps,x.length≤3000:=fun x hx=>by
  have:=OB (p::ps) x (List.mem_cons_of_mem _ hx)
  rw[←hp,Dh]at this;omega
 have h4:=AIK (s:=s) (n:=n) (fr:=fr+l.length+1) (m0:=m0) (N:=N) (f:=f) (acc:=acc) (p:=p) hpl (by omega) hf ps.length 0 [] (by omega) rfl
 rw[h2,←h4]
 have hg:s[fr+l.length]?=some 10:=by
  rw[←List.getElem?_drop,he,List.getElem?_append_right (Nat.le_refl _),Nat.sub_self];rfl
 have ix:Pm (.str s) (.int .i64 ((fr+l.length:Nat):Int))=some (.int .u8 10):=by rw[Ue,hg];rfl
 have ne:AL .neq (.int .u8 10) (.int .u8 10)=some (.bool false):=rfl
 have ls:AL .lss (.int .i64 ((fr+l.length:Nat):Int)) (.int .i64 (s.length:Int))=some (.bool true):=by rw[b_lss,decide_eq_true (by omega)]
 have eq:AL .eql (.int .i64 ((fr+l.length:Nat):Int)) (.int .i64 (s.length:Int))=some (.bool false):=by rw[b_eql,decide_eq_false (by omega)]
 have ad:AL .add (.int .i64 ((fr+l.length:Nat):Int)) (.int .i64 1)=some (.int .i64 ((fr+l.length+1:Nat):Int)):=by
  rw[DZ,Ad (by omega) (by omega)];rfl
 have st:UO (.str s) (some (.int .i64 (fr:Int))) (some (.int .i64 ((fr+l.length:Nat):Int)))=some (.str l):=by
  rw[Uf (by omega) (by omega),Yw he (by omega)]
 have wd:=ACC (s:=l) (by omega)
 rw[hp]at wd
 rw[Kq]
 clear h2 h4 he hg
 generalize (p::ps).map V.str=W at*
 generalize fr+l.length+1=q at*
 generalize fr+l.length=z at*
 rcases hf with rfl|rfl
 all_goals (repeat' with_reducible first|refine(Af _ _).trans ?_|refine(Aa _ _).trans ?_|refine(AA _ _).trans ?_|((first|(refine' (AB ?_ _).trans ?_;rotate_left)|refine(if_pos ?_).trans ?_|refine(AQ ?_ _ _).trans ?_);focus (first|rfl|(simp(disch:=first|assumption|omega|with_reducible rfl|(simp only[go_sem]<;>omega)|fail) only[↓reduceIte,↓AA,Nat.reduceAdd,go_sem,Bool.not_true,Bool.not_false,ix,ne,ls,eq,ad,st,wd]<;>first|rfl|omega)|assumption|omega))|(refine(AO ?_ _ _).trans ?_;focus (first|(simp(disch:=first|assumption|omega|with_reducible rfl|(simp only[go_sem]<;>omega)|fail) only[↓reduceIte,↓AA,Nat.reduceAdd,go_sem,Bool.not_true,Bool.not_false,ix,ne,ls,eq,ad,st,wd]<;>omega)|assumption|omega))|fail)
 all_goals rfl
theorem X7 {s:List UInt8} (hs:s.length≤2500) {n fr m0:Nat} {N:Int} {f:Fl} {acc:List E0} (hf:f= .own∨f= .nil) {t:List UInt8} (hfr:fr≤s.length) (he:s.drop fr=t) (hl:(10:UInt8)∉t):
 GR (.str s) (.ref 0 [] 24) (.ref 1 [] 24) (.int .i64 (fr:Int)) (.int .i64 (n:Int)) (.int .i64 (fr:Int)) m0 (Eg N f acc)=ACD n:=by
 have hlen:fr+t.length=s.length:=by
  have:=congrArg List.length he
  rw[List.length_drop]at this;omega
 have h2:=AEq (s:=s) (fr:=fr) (by omega) (n:=n) (m0:=m0) (h:=Eg N f acc) (x:= .ref 0 [] 24) (y:= .ref 1 [] 24) (r:=[]) (by rw[he,List.append_nil]) hl t.length 0 (by omega)
 rw[Nat.add_zero]at h2
 rw[h2,hlen]
 have ls:AL .lss (.int .i64 (s.length:Int)) (.int .i64 (s.length:Int))=some (.bool false):=by rw[b_lss,decide_eq_false (by omega)]
 have eq:AL .eql (.int .i64 (s.length:Int)) (.int .i64 (s.length:Int))=some (.bool true):=by rw[b_eql,decide_eq_true rfl]
 rw[Kq]
 clear h2 he
 rcases hf with rfl|rfl
 all_goals (repeat' with_reducible first|refine(Af _ _).trans ?_|refine(Aa _ _).trans ?_|refine(AA _ _).trans ?_|((first|(refine' (AB ?_ _).trans ?_;rotate_left)|refine(if_pos ?_).trans ?_|refine(AQ ?_ _ _).trans ?_);focus (first|rfl|(simp(disch:=first|assumption|omega|with_reducible rfl|(simp only[go_sem]<;>omega)|fail) only[↓reduceIte,↓AA,Nat.reduceAdd,go_sem,Bool.not_true,Bool.not_false,ls,eq]<;>first|rfl|omega)|assumption|omega))|(refine(AO ?_ _ _).trans ?_;focus (first|(simp(disch:=first|assumption|omega|with_reducible rfl|(simp only[go_sem]<;>omega)|fail) only[↓reduceIte,↓AA,Nat.reduceAdd,go_sem,Bool.not_true,Bool.not_false,ls,eq]<;>omega)|assumption|omega))|fail)
 all_goals rfl
end
section
open Go AM
theorem ADw:Cl 10 [] []=some (.bool true,[]):=Ph.2 ⟨60,by kernel_rfl⟩
end
end Go.Proofs.YtaghnpjlhmgioaaDoor
