/-
  Part of the proof of a statement about the given program: an abstract machine over its code, the simulation, its functions' equations, what they compute.
-/
import Derived.Sort.LotA
import Derived.Sort.LotB
import Derived.Test.YtaghnpjlhmgioaaDoorMg11
import Derived.Test.YtaghnpjlhmgioaaDoorMg5
set_option linter.unusedVariables false
set_option linter.unusedSimpArgs false
set_option linter.unusedSectionVars false
set_option maxRecDepth 100000
noncomputable section
namespace Go.Proofs.YtaghnpjlhmgioaaDoor
section
open Go AM
namespace Ed
abbrev cm:V:= .clo 28 []
def HB (h0:List V) (id:Nat) (d:Array Edg):List V:=h0.set id (rowM d)
theorem Nr {h0:List V} {id:Nat} (hid:id<h0.length) (d:Array Edg):(HB h0 id d)[id]?=some (rowM d):=by simp[HB,hid]
theorem WQ {h0:List V} {id:Nat} (d d':Array Edg):(HB h0 id d).set id (rowM d')=HB h0 id d':=by simp[HB]
theorem CB {h0:List V} {id:Nat} (d:Array Edg):(HB h0 id d).length=h0.length:=by simp[HB]
theorem Ea {h0:List V} {id:Nat} (d:Array Edg):(if(List.all [] V.okE)=true then AY h0.length (HB h0 id d) (V.tup [])else none)=some (.tup [],HB h0 id d):=by
 rw[AHn,List.take_of_length_le (by rw[CB];exact Nat.le_refl _)]
section
variable {B:Type} {h0:List V} {id N:Nat} (hid:id<h0.length) {d:Array Edg} (hN:N=d.size)
include hid hN
theorem EM {i:Nat} (hi:i<N) (K:V→Option B):
 (AP P 22 (V.weak (winM id N)) (.int .i64 (i:Int))).bind (fun a=>(A8 (HB h0 id d) 45 a).bind K)=K (vEdg d[i]!):=atM (Nr hid d) hN hi K
theorem Fj {i j:Nat} (hi:i<N) (hj:j<N) (K:List V→Option B):
 (AP P 22 (V.weak (winM id N)) (.int .i64 (i:Int))).bind (fun c=>(EY P (HB h0 id d) 45 c (vEdg d[j]!)).bind fun h1=>
  (AP P 22 (V.weak (winM id N)) (.int .i64 (j:Int))).bind fun e=>(EY P h1 45 e (vEdg d[i]!)).bind K)=K (HB h0 id (Sort.swp d i j)):=by
 refine(stM (Nr hid d) hN hi _ _).trans ?_
 rw[WQ]
 refine(stM (Nr hid _) (by simp[hN]) hj _ _).trans ?_
 rw[WQ];rfl
end
theorem Dv {B:Type} (b:Bool) (x y:Option B):V.ite (.bool b) x y=if b=true then x else y:=by cases b<;>rfl
theorem AFv {B:Type} {a b:Int} (h1: -4611686018427387904≤a-b) (h2:a-b<4611686018427387904) (K:V→Option B):(AL .sub (.int .i64 a) (.int .i64 b)).bind K=K (.int .i64 (a-b)):=by
 rw[Lr,Ad (by omega) (by omega)];rfl
theorem JG (a:Nat):∀(j:Nat) (d:Array Edg),(Sort.insInner ltE a j d).size=d.size
 |0,d=>rfl
 |j+1,d=>by
  rw[Sort.insInner];split
  ·rw[JG a j];exact BL _ _ _
  ·rfl
theorem AHt {hi first root:Nat} {d:Array Edg} (h1:¬2*root+1≥hi) (h2:2*root+1+1<hi) (hl:ltE d[first+(2*root+1)]! d[first+(2*root+1)+1]! =true):
 Sort.siftDown ltE hi first root d=if(!ltE d[first+root]! d[first+(2*root+1+1)]!)=true then d else Sort.siftDown ltE hi first (2*root+1+1) (Sort.swp d (first+root) (first+(2*root+1+1))):=by
 rw[Sort.siftDown,dif_neg h1,if_pos (by simp[h2,hl])]
 by_cases hm:(!ltE d[first+root]! d[first+(2*root+1+1)]!)=true
 ·rw[if_pos hm,if_pos hm]
 ·rw[if_neg hm,if_neg hm,dif_pos h2]
theorem AFw {hi first root:Nat} {d:Array Edg} (h1:¬2*root+1≥hi) (h2:¬(2*root+1+1<hi∧ltE d[first+(2*root+1)]! d[first+(2*root+1)+1]! =true)):
 Sort.siftDown ltE hi first root d=if(!ltE d[first+root]! d[first+(2*root+1)]!)=true then d else Sort.siftDown ltE hi first (2*root+1) (Sort.swp d (first+root) (first+(2*root+1))):=by
 rw[Sort.siftDown,dif_neg h1,if_neg (by simpa using h2)]
theorem ADR {hi first root:Nat} {d:Array Edg} (h1:2*root+1≥hi):Sort.siftDown ltE hi first root d=d:=by
 rw[Sort.siftDown,dif_pos h1]
section
variable {h0:List V} {id N:Nat} (hid:id<h0.length) (hb62:N<1000000000000000000)
include hid hb62
theorem AFx (a b i m:Nat) (ha:a<4611686018427387904) (hi:i<4611686018427387000):∀(j:Nat) (d:Array Edg),N=d.size→j<N→
 Rx (winM id N) (.int .i64 (a:Int)) (.int .i64 (b:Int)) cm (.int .i64 (i:Int)) (.int .i64 (j:Int)) h0.length m (HB h0 id d)=
  NV (winM id N) (.int .i64 (a:Int)) (.int .i64 (b:Int)) cm (.int .i64 ((i+1:Nat):Int)) h0.length (HB h0 id (Sort.insInner ltE a j d)):=by
 intro j
 induction j with
 |zero=>
  intro d hN hj
  rw[P7,Vp]
  refine(Ye (by omega) _).trans ?_
  rw[AV,AV,Ry]
  exact Bd (b:=1) (by omega) _
 |succ j ih=>
  intro d hN hj
  rw[P7,Vp]
  by_cases hj':j+1>a
  ·refine(Yd (by omega) _).trans ?_
   rw[Ak]
   refine(EM hid hN hj _).trans<|(Bj (b:=1) (by omega) (by omega) _).trans<|(EM hid hN (by omega) _).trans ?_
   refine(J5 _ _ _).trans ?_
   rw[Dv,Nat.add_sub_cancel]
   by_cases hc:ltE d[j+1]! d[j]! =true
   ·have e:Sort.insInner ltE a (j+1) d=Sort.insInner ltE a j (Sort.swp d (j+1) j):=by rw[Sort.insInner,if_pos (by simp[hj',hc])]
    rw[if_pos hc,e,AAM]
    refine(Bj (b:=1) (by omega) (by omega) _).trans<|(Bj (b:=1) (by omega) (by omega) _).trans ?_
    rw[Nat.add_sub_cancel]
    refine(EM hid hN (by omega) _).trans<|(EM hid hN hj _).trans<|(Fj hid hN hj (by omega) _).trans ?_
    rw[AAN]
    refine(Bj (b:=1) (by omega) (by omega) _).trans ?_
    exact ih _ (by rw[BL];exact hN) (by omega)
   ·have e:Sort.insInner ltE a (j+1) d=d:=by rw[Sort.insInner,if_neg (by simp[hc])]
    rw[if_neg hc,e,Ry]
    exact Bd (b:=1) (by omega) _
  ·refine(Ye (by omega) _).trans ?_
   have e:Sort.insInner ltE a (j+1) d=d:=by rw[Sort.insInner,if_neg (by simp;omega)]
   rw[AV,AV,e,Ry]
   exact Bd (b:=1) (by omega) _
theorem AFy (a b:Nat) (ha:a<4611686018427387904) (hb:b≤N):∀(n i:Nat) (d:Array Edg),N=d.size→b-i=n→i<4611686018427387000→
 NV (winM id N) (.int .i64 (a:Int)) (.int .i64 (b:Int)) cm (.int .i64 (i:Int)) h0.length (HB h0 id d)=
  some (.tup [],HB h0 id (Sort.insOuter ltE a b i d)):=by
 intro n
 induction n with
 |zero=>
  intro i d hN hi h62
  rw[P8,Vo,Nq (by omega),AV,Ea,Sort.insOuter,if_neg (by omega)]
 |succ n ih=>
  intro i d hN hi h62
  rw[P8,Vo,Ug (by omega),Ak,AAL,Sort.insOuter,if_pos (by omega)]
  refine(AFx hid hb62 a b i _ ha h62 i d hN (by omega)).trans ?_
  exact ih (i+1) _ (by rw[JG];exact hN) (by omega) (by omega)
theorem TW {d:Array Edg} {a b:Nat} (hN:N=d.size) (hb:b≤N) (ha:a≤b):
 Cl 57 [winM id N,.int .i64 (a:Int),.int .i64 (b:Int),cm] (HB h0 id d)=some (.tup [],HB h0 id (Sort.insertionSort ltE d a b)):=by
 rw[AFR,AAK]
 refine(Bd (b:=1) (by omega) _).trans ?_
 rw[CB]
 exact AFy hid hb62 a b (by omega) hb _ (a+1) d hN rfl (by omega)
theorem ADS (hi first:Nat) (hf:first+hi≤N):∀(k root:Nat) (d:Array Edg),N=d.size→hi-root≤k→root≤hi→
 Nc (winM id N) (.int .i64 (hi:Int)) (.int .i64 (first:Int)) cm (.int .i64 (root:Int)) h0.length (HB h0 id d)=
  some (.tup [],HB h0 id (Sort.siftDown ltE hi first root d)):=by
 intro k
 induction k with
 |zero=>
  intro root d hN hk hr
  rw[QR,WI]
  refine(YZ (a:=2) (by omega) _).trans<|(Bd (b:=1) (by omega) _).trans ?_
  rw[WJ,J4 (by omega),Ak,Ea,ADR (by omega)]
 |succ k ih=>
  intro root d hN hk hr
  rw[QR,WI]
  refine(YZ (a:=2) (by omega) _).trans<|(Bd (b:=1) (by omega) _).trans ?_
  rw[WJ]
  by_cases h1:2*root+1≥hi
  ·rw[J4 (by omega),Ak,Ea,ADR h1]
  rw[Kz (by omega),AV,ABC]
  refine(Bd (b:=1) (by omega) _).trans ?_
  have go:∀c,c<hi→root<c→
   WL (winM id N) (.int .i64 (first:Int)) cm (.int .i64 (root:Int)) (.int .i64 (c:Int)) (HB h0 id d) (fun t58 h_8=>
    V.ite t58 (if(List.all [] V.okE)=true then AY h0.length h_8 (V.tup [])else none)
     (WM (winM id N) (.int .i64 (first:Int)) (.int .i64 (root:Int)) (.int .i64 (c:Int)) h_8 fun h_9=>
      WN (.int .i64 (c:Int)) fun t10_10=>
      Nc (winM id N) (.int .i64 (hi:Int)) (.int .i64 (first:Int)) cm t10_10 h0.length h_9))=
   if(!ltE d[first+root]! d[first+c]!)=true then some (.tup [],HB h0 id d)else some (.tup [],HB h0 id (Sort.siftDown ltE hi first c (Sort.swp d (first+root) (first+c)))):=by
   intro c hc hrc
   rw[WL]
   refine(Bd (by omega) _).trans<|(EM hid hN (by omega) _).trans<|(Bd (by omega) _).trans<|(EM hid hN (by omega) _).trans<|(J5 _ _ (fun b h1=>(un .not b).bind fun t=>_)).trans ?_
   refine(TV _ _).trans ?_
   rw[Dv]
   by_cases hl:(!ltE d[first+root]! d[first+c]!)=true
   ·rw[if_pos hl,if_pos hl,Ea]
   ·rw[if_neg hl,if_neg hl,WM]
    refine(Bd (by omega) _).trans<|(Bd (by omega) _).trans<|(Bd (by omega) _).trans<|(EM hid hN (by omega) _).trans<|(Bd (by omega) _).trans<|(EM hid hN (by omega) _).trans<|(Fj hid hN (by omega) (by omega) _).trans ?_
    rw[WN]
    exact ih c _ (by rw[BL];exact hN) (by omega) (by omega)
  by_cases h2:2*root+1+1<hi
  ·refine(Ug (by omega) _).trans ?_
   rw[Ak]
   refine(Bd (by omega) _).trans<|(EM hid hN (by omega) _).trans<|(Bd (by omega) _).trans<|(Bd (b:=1) (by omega) _).trans<|(EM hid hN (by omega) _).trans<|(J5 _ _ _).trans ?_
   simp only[jn]
   rw[Dv]
   by_cases hl:ltE d[first+(2*root+1)]! d[first+(2*root+1)+1]! =true
   ·rw[if_pos hl,ABD]
    refine(Bd (b:=1) (by omega) _).trans ?_
    refine(go (2*root+1+1) h2 (by omega)).trans ?_
    rw[AHt h1 h2 hl];split<;>rfl
   ·rw[if_neg hl]
    refine(go (2*root+1) (by omega) (by omega)).trans ?_
    rw[AFw h1 (by simp[hl])];split<;>rfl
  ·refine(Nq (by omega) _).trans ?_
   rw[AV]
   simp only[jn]
   rw[AV]
   refine(go (2*root+1) (by omega) (by omega)).trans ?_
   rw[AFw h1 (by simp[h2])];split<;>rfl
theorem Xp {d:Array Edg} {hi first root:Nat} (hN:N=d.size) (hf:first+hi≤N) (hr:root≤hi):
 Cl 80 [winM id N,.int .i64 (root:Int),.int .i64 (hi:Int),.int .i64 (first:Int),cm] (HB h0 id d)=some (.tup [],HB h0 id (Sort.siftDown ltE hi first root d)):=by
 rw[AFe,ABB,CB]
 exact ADS hid hb62 hi first hf _ root d hN (Nat.le_refl _) hr
end
end Ed
end
section
open Go AM
namespace Ed
theorem Xq (hi first:Nat):∀(k root:Nat) (d:Array Edg),hi-root≤k→(Sort.siftDown ltE hi first root d).size=d.size:=by
 intro k
 induction k with
 |zero=>intro root d hk;rw[ADR (by omega)]
 |succ k ih=>
  intro root d hk
  by_cases h1:2*root+1≥hi
  ·rw[ADR h1]
  by_cases h2:2*root+1+1<hi∧ltE d[first+(2*root+1)]! d[first+(2*root+1)+1]! =true
  ·rw[AHt h1 h2.1 h2.2];split
   ·rfl
   ·rw[ih _ _ (by omega),BL]
  ·rw[AFw h1 h2];split
   ·rfl
   ·rw[ih _ _ (by omega),BL]
theorem AEi (id N:Nat) (a b c:Int):Ac [(winM id N).weak,.int .i64 a,.int .i64 b,.int .i64 c,cm]=[winM id N,.int .i64 a,.int .i64 b,.int .i64 c,cm]:=rfl
section
variable {h0:List V} {id N:Nat} (hid:id<h0.length) (hb62:N<1000000000000000000)
include hid hb62
theorem ADT (first hi:Nat) (hf:first+hi≤N):∀(k:Nat) (d:Array Edg),N=d.size→k≤hi→
 SA (winM id N) cm (.int .i64 (first:Int)) (.int .i64 0) (.int .i64 ((k:Int)-1)) h0.length (HB h0 id d)=some (.tup [],HB h0 id (Sort.heapPop ltE first k d)):=by
 intro k
 induction k with
 |zero=>
  intro d hN hk
  rw[P9,Vr,Kz (by omega),AV,Ea];rfl
 |succ k ih=>
  intro d hN hk
  rw[P9,Vr,J4 (by omega),Ak,Xa,show((k+1:Nat):Int)-1=(k:Int)by omega]
  refine(Bd (by omega) _).trans<|(Bd (by omega) _).trans<|(EM hid hN (by omega) _).trans<|(EM hid hN (by omega) _).trans<|(Fj hid hN (by omega) (by omega) _).trans ?_
  rw[Xb,AEi]
  refine(AB (Xp (root:=0) hid hb62 (by rw[BL];exact hN) (by omega) (by omega)) _).trans ?_
  rw[AAV]
  refine(AFv (by omega) (by omega) _).trans ?_
  exact ih _ (by rw[Xq _ _ _ _ _ (Nat.le_refl _),BL];exact hN) (by omega)
theorem ADU (first hi:Nat) (hf:first+hi≤N) (h1:0<hi):∀(k:Nat) (d:Array Edg),N=d.size→k≤hi→
 Rz (winM id N) cm (.int .i64 (first:Int)) (.int .i64 0) (.int .i64 (hi:Int)) (.int .i64 ((k:Int)-1)) h0.length (HB h0 id d)=some (.tup [],HB h0 id (Sort.heapPop ltE first hi (Sort.heapBuild ltE hi first k d))):=by
 intro k
 induction k with
 |zero=>
  intro d hN hk
  rw[QA,Vq,Kz (by omega),AV,AAU]
  refine(AFv (by omega) (by omega) _).trans ?_
  exact ADT hid hb62 first hi hf hi d hN (Nat.le_refl _)
 |succ k ih=>
  intro d hN hk
  rw[QA,Vq,J4 (by omega),Ak,AAS,show((k+1:Nat):Int)-1=(k:Int)by omega,AEi]
  refine(AB (Xp hid hb62 hN hf (by omega)) _).trans ?_
  rw[AAT]
  refine(AFv (by omega) (by omega) _).trans ?_
  exact ih _ (by rw[Xq _ _ _ _ _ (Nat.le_refl _)];exact hN) (by omega)
theorem ADV {d:Array Edg} {a b:Nat} (hN:N=d.size) (hb:b≤N) (ha:a<b):
 Cl 58 [winM id N,.int .i64 (a:Int),.int .i64 (b:Int),cm] (HB h0 id d)=some (.tup [],HB h0 id (Sort.heapSort ltE d a b)):=by
 rw[AFS,AAO,AAP,AAQ]
 refine(Bj (by omega) (by omega) _).trans ?_
 rw[AAR]
 refine(Bj (b:=1) (by omega) (by omega) _).trans ?_
 refine(AB (Ls _ _ _ (by omega)) _).trans ?_
 rw[show((b-a-1:Nat):Int).tdiv 2=(((b-a-1)/2:Nat):Int)by rfl,Ad (by omega) (by omega),CB,show(((b-a-1)/2:Nat):Int)=(((b-a-1)/2+1:Nat):Int)-1 by omega]
 exact ADU hid hb62 a (b-a) (by omega) (by omega) _ d hN (by omega)
theorem AFz:∀(k i j:Nat) (d:Array Edg),N=d.size→j-i≤k→j<N→
 SN (winM id N) (.int .i64 (i:Int)) (.int .i64 (j:Int)) h0.length (HB h0 id d)=some (.tup [],HB h0 id (Sort.reverseLoop i j d)):=by
 intro k
 induction k with
 |zero=>
  intro i j d hN hk hj
  rw[QC,Vu,Nq (by omega),AV,Ea,Sort.reverseLoop,if_neg (by omega)]
 |succ k ih=>
  intro i j d hN hk hj
  rw[QC,Vu]
  by_cases hij:i<j
  ·rw[Ug (by omega),Ak,AAq,Sort.reverseLoop,if_pos hij]
   refine(EM hid hN (by omega) _).trans<|(EM hid hN (by omega) _).trans<|(Fj hid hN (by omega) (by omega) _).trans ?_
   rw[AAr]
   refine(Bd (b:=1) (by omega) _).trans ?_
   rw[AAs]
   refine(Bj (b:=1) (by omega) (by omega) _).trans ?_
   exact ih (i+1) (j-1) _ (by rw[BL];exact hN) (by omega) (by omega)
  ·rw[Nq (by omega),AV,Ea,Sort.reverseLoop,if_neg hij]
theorem WR {d:Array Edg} {a b:Nat} (hN:N=d.size) (hb:b≤N) (ha:a<b):
 Cl 61 [winM id N,.int .i64 (a:Int),.int .i64 (b:Int),cm] (HB h0 id d)=some (.tup [],HB h0 id (Sort.reverseRange d a b)):=by
 rw[AFV,AAo,AAp]
 refine(Bj (b:=1) (by omega) (by omega) _).trans ?_
 rw[CB]
 exact AFz hid hb62 _ a (b-1) d hN (Nat.le_refl _) (by omega)
end
theorem Dl (p:Edg→Bool) (d:Array Edg) (j i:Nat):Sort.scanUp p d j i=if i≤j&&p d[i]! then Sort.scanUp p d j (i+1)else i:=by rw[Sort.scanUp]
theorem EG (p:Edg→Bool) (d:Array Edg) (j:Nat):∀k i,j+1-i≤k→i≤Sort.scanUp p d j i∧(i≤j+1→Sort.scanUp p d j i≤j+1):=by
 intro k
 induction k with
 |zero=>intro i hk;rw[Dl,if_neg (by simp;omega)];omega
 |succ k ih=>
  intro i hk
  rw[Dl]
  split
  ·rename_i h
   have h1:i≤j:=by simp at h;exact h.1
   have:=ih (i+1) (by omega);omega
  ·omega
theorem Cc (p:Edg→Bool) (d:Array Edg) (i:Nat):∀j,Sort.scanDown p d i j≤j∧(1≤i→i≤j+1→i≤Sort.scanDown p d i j+1)
 |0=>by simp[Sort.scanDown]
 |j+1=>by
  rw[Sort.scanDown]
  split
  ·rename_i h
   have h1:i≤j+1:=by simp at h;exact h.1
   have:=Cc p d i j;omega
  ·omega
section
variable {h0:List V} {id N:Nat} (hid:id<h0.length) (hb62:N<1000000000000000000)
include hid hb62
theorem Xr {d:Array Edg} (x:Nat):AY h0.length (HB h0 id d) (.int .i64 (x:Int))=some (.int .i64 (x:Int),HB h0 id d):=by
 rw[Ij,List.take_of_length_le (by rw[CB];exact Nat.le_refl _)]
theorem AEj (a m:Nat) (ha:a<N) {j:Nat} (hj:j<N) (d:Array Edg) (hN:N=d.size):∀(k i:Nat),j+1-i≤k→i≤N→
 Sm (winM id N) (.int .i64 (a:Int)) cm (.int .i64 (i:Int)) (.int .i64 (j:Int)) h0.length m (HB h0 id d)=
  NZ (winM id N) (.int .i64 (a:Int)) cm (.int .i64 (Sort.scanUp (fun x=> !ltE d[a]! x) d j i:Nat)) (.int .i64 (j:Int)) h0.length m (HB h0 id d):=by
 intro k
 induction k with
 |zero=>
  intro i hk hi
  rw[QI,V4,Ja (by omega),AV,AV,Dl,if_neg (by simp;omega)]
 |succ k ih=>
  intro i hk hi
  rw[QI,V4,Dl]
  by_cases hij:i≤j
  ·rw[Uh (by omega),Ak]
   refine(EM hid hN (by omega) _).trans<|(EM hid hN (by omega) _).trans<|(J5 _ _ (fun b h1=>(un .not b).bind fun t=>_)).trans<|(TV _ _).trans ?_
   rw[Dv]
   by_cases hl:(!ltE d[a]! d[i]!)=true
   ·rw[if_pos hl,if_pos (by simp[hij];simpa using hl),AA0]
    refine(Bd (b:=1) (by omega) _).trans ?_
    exact ih (i+1) (by omega) (by omega)
   ·rw[if_neg hl,if_neg (by simp[hij];simpa using hl)]
  ·rw[Ja (by omega),AV,AV,if_neg (by simp;omega)]
def ABg (h0:List V) (id N a m i:Nat) (d:Array Edg) (j:Nat):Option (V×List V):=
 Sr (.int .i64 (i:Int)) (.int .i64 (j:Int)) fun t70=>
  V.ite t70 (MZ (.int .i64 (i:Int)) fun t10=>AY h0.length (HB h0 id d) t10)
   (V6 (winM id N) (.int .i64 (i:Int)) (.int .i64 (j:Int)) (HB h0 id d) fun h_12=>
    V7 (.int .i64 (i:Int)) fun t11_13=>
    Sv (.int .i64 (j:Int)) fun t12_14=>
    NY (winM id N) (.int .i64 (a:Int)) cm t11_13 t12_14 h0.length h_12)
theorem AEk (a m i:Nat) (ha:a<N) (d:Array Edg) (hN:N=d.size) (hi:1≤i):∀(j:Nat),j<N→
 NZ (winM id N) (.int .i64 (a:Int)) cm (.int .i64 (i:Int)) (.int .i64 (j:Int)) h0.length m (HB h0 id d)=
  ABg h0 id N a m i d (Sort.scanDown (fun x=>ltE d[a]! x) d i j):=by
 intro j
 induction j with
 |zero=>
  intro hj
  rw[QH,V5,Ja (by omega),AV,AV,Sort.scanDown];rfl
 |succ j ih=>
  intro hj
  rw[QH,V5,Sort.scanDown]
  by_cases hij:i≤j+1
  ·rw[Uh (by omega),Ak]
   refine(EM hid hN (by omega) _).trans<|(EM hid hN (by omega) _).trans<|(J5 _ _ _).trans ?_
   rw[Dv]
   by_cases hl:ltE d[a]! d[j+1]! =true
   ·rw[if_pos hl,if_pos (by simp[hij,hl]),AA1]
    refine(Bj (b:=1) (by omega) (by omega) _).trans ?_
    exact ih (by omega)
   ·rw[if_neg hl,if_neg (by simp[hij,hl])];rfl
  ·rw[Ja (by omega),AV,AV,if_neg (by simp;omega)];rfl
theorem JH (a i j:Nat) (d:Array Edg) (hi:1≤i):Sort.partEqLoop ltE a i j d=
 if Sort.scanUp (fun x=> !ltE d[a]! x) d j i>Sort.scanDown (fun x=>ltE d[a]! x) d (Sort.scanUp (fun x=> !ltE d[a]! x) d j i) j then(Sort.scanUp (fun x=> !ltE d[a]! x) d j i,d)else
  Sort.partEqLoop ltE a (Sort.scanUp (fun x=> !ltE d[a]! x) d j i+1) (Sort.scanDown (fun x=>ltE d[a]! x) d (Sort.scanUp (fun x=> !ltE d[a]! x) d j i) j-1) (Sort.swp d (Sort.scanUp (fun x=> !ltE d[a]! x) d j i) (Sort.scanDown (fun x=>ltE d[a]! x) d (Sort.scanUp (fun x=> !ltE d[a]! x) d j i) j)):=by
 rw[Sort.partEqLoop]
 have u:=EG (fun x=> !ltE d[a]! x) d j _ i (Nat.le_refl _)
 have w:=Cc (fun x=>ltE d[a]! x) d (Sort.scanUp (fun x=> !ltE d[a]! x) d j i) j
 generalize Sort.scanUp (fun x=> !ltE d[a]! x) d j i=i2 at*
 generalize Sort.scanDown (fun x=>ltE d[a]! x) d i2 j=j2 at*
 by_cases h:i2>j2
 ·rw[if_pos h,if_pos h]
 ·rw[if_neg h,if_neg h,dif_pos (by omega)]
theorem AHu (a:Nat) (ha:a<N):∀(k i j:Nat) (d:Array Edg),N=d.size→j+1-i≤k→1≤i→i≤N→j<N→
 NY (winM id N) (.int .i64 (a:Int)) cm (.int .i64 (i:Int)) (.int .i64 (j:Int)) h0.length (HB h0 id d)=
  some (.int .i64 ((Sort.partEqLoop ltE a i j d).1:Nat),HB h0 id (Sort.partEqLoop ltE a i j d).2):=by
 intro k
 induction k with
 |zero=>
  intro i j d hN hk hi hiN hj
  have u:=EG (fun x=> !ltE d[a]! x) d j _ i (Nat.le_refl _)
  have w:=Cc (fun x=>ltE d[a]! x) d (Sort.scanUp (fun x=> !ltE d[a]! x) d j i) j
  rw[QJ,AEj hid hb62 a _ ha hj d hN _ i (Nat.le_refl _) hiN,AEk hid hb62 a _ _ ha d hN (by omega) j hj,JH hid hb62 a i j d hi,ABg,Sr]
  generalize Sort.scanUp (fun x=> !ltE d[a]! x) d j i=i2 at*
  generalize Sort.scanDown (fun x=>ltE d[a]! x) d i2 j=j2 at*
  rw[if_pos (by omega),Yd (by omega),Ak,MZ,Xr hid hb62]
 |succ k ih=>
  intro i j d hN hk hi hiN hj
  have u:=EG (fun x=> !ltE d[a]! x) d j _ i (Nat.le_refl _)
  have w:=Cc (fun x=>ltE d[a]! x) d (Sort.scanUp (fun x=> !ltE d[a]! x) d j i) j
  rw[QJ,AEj hid hb62 a _ ha hj d hN _ i (Nat.le_refl _) hiN,AEk hid hb62 a _ _ ha d hN (by omega) j hj,JH hid hb62 a i j d hi,ABg,Sr]
  generalize Sort.scanUp (fun x=> !ltE d[a]! x) d j i=i2 at*
  generalize Sort.scanDown (fun x=>ltE d[a]! x) d i2 j=j2 at*
  by_cases h:i2>j2
  ·rw[if_pos h,Yd (by omega),Ak,MZ,Xr hid hb62]
  ·rw[if_neg h,Ye (by omega),AV,V6]
   refine(EM hid hN (by omega) _).trans<|(EM hid hN (by omega) _).trans<|(Fj hid hN (by omega) (by omega) _).trans ?_
   rw[V7]
   refine(Bd (b:=1) (by omega) _).trans ?_
   rw[Sv]
   refine(Bj (b:=1) (by omega) (by omega) _).trans ?_
   exact ih (i2+1) (j2-1) _ (by rw[BL];exact hN) (by omega) (by omega) (by omega) (by omega)
theorem Yf {d:Array Edg} {a b p:Nat} (hN:N=d.size) (hb:b≤N) (ha:a<b) (hp:p<N):
 Cl 63 [winM id N,.int .i64 (a:Int),.int .i64 (b:Int),.int .i64 (p:Int),cm] (HB h0 id d)=
  some (.int .i64 ((Sort.partitionEqual ltE d a b p).1:Nat),HB h0 id (Sort.partitionEqual ltE d a b p).2):=by
 rw[AFX,AAx,AAy]
 refine(EM hid hN hp _).trans<|(EM hid hN (by omega) _).trans<|(Fj hid hN (by omega) hp _).trans ?_
 rw[AAz]
 refine(Bd (b:=1) (by omega) _).trans<|(Bj (b:=1) (by omega) (by omega) _).trans ?_
 rw[CB]
 exact AHu hid hb62 a (by omega) _ (a+1) (b-1) _ (by rw[BL];exact hN) (Nat.le_refl _) (by omega) (by omega) (by omega)
end
end Ed
end
section
open Go AM
namespace Ed
theorem AF0 {n:Nat} {h:List V} {a:Int} {b:Bool}:(if(List.all [V.bool b,V.int .i64 a] V.okE)=true then AY n h (V.tup [.int .i64 a,.bool b])else none)=some (.tup [.int .i64 a,.bool b],h.take n):=rfl
theorem Lu (a i j:Nat) (d:Array Edg) (hi:1≤i):Sort.partLoop ltE a i j d=
 if Sort.scanUp (fun x=>ltE x d[a]!) d j i>Sort.scanDown (fun x=> !ltE x d[a]!) d (Sort.scanUp (fun x=>ltE x d[a]!) d j i) j then(Sort.scanDown (fun x=> !ltE x d[a]!) d (Sort.scanUp (fun x=>ltE x d[a]!) d j i) j,d)else
  Sort.partLoop ltE a (Sort.scanUp (fun x=>ltE x d[a]!) d j i+1) (Sort.scanDown (fun x=> !ltE x d[a]!) d (Sort.scanUp (fun x=>ltE x d[a]!) d j i) j-1) (Sort.swp d (Sort.scanUp (fun x=>ltE x d[a]!) d j i) (Sort.scanDown (fun x=> !ltE x d[a]!) d (Sort.scanUp (fun x=>ltE x d[a]!) d j i) j)):=by
 rw[Sort.partLoop]
 have u:=EG (fun x=>ltE x d[a]!) d j _ i (Nat.le_refl _)
 have w:=Cc (fun x=> !ltE x d[a]!) d (Sort.scanUp (fun x=>ltE x d[a]!) d j i) j
 generalize Sort.scanUp (fun x=>ltE x d[a]!) d j i=i2 at*
 generalize Sort.scanDown (fun x=> !ltE x d[a]!) d i2 j=j2 at*
 by_cases h:i2>j2
 ·rw[if_pos h,if_pos h]
 ·rw[if_neg h,if_neg h,dif_pos (by omega)]
section
variable {h0:List V} {id N:Nat} (hid:id<h0.length) (hb62:N<1000000000000000000)
include hid hb62
theorem AEl {d:Array Edg} {a:Int} {b:Bool}:(if(List.all [V.bool b,V.int .i64 a] V.okE)=true then AY h0.length (HB h0 id d) (V.tup [.int .i64 a,.bool b])else none)=some (.tup [.int .i64 a,.bool b],HB h0 id d):=by
 rw[AF0,List.take_of_length_le (by rw[CB];exact Nat.le_refl _)]
def ptE (h0:List V) (id N a i:Nat) (d:Array Edg) (j:Nat):Option (V×List V):=
 Mc (.int .i64 (i:Int)) (.int .i64 (j:Int)) fun t=>
  V.ite t (TJ (winM id N) (.int .i64 (a:Int)) (.int .i64 (j:Int)) (HB h0 id d) fun h1=>
   TL (.int .i64 (j:Int)) fun t10 t11=>
   if(List.all [t11,t10] V.okE)=true then AY h0.length h1 (V.tup [t10,t11])else none)
   (TM (winM id N) (.int .i64 (i:Int)) (.int .i64 (j:Int)) (HB h0 id d) fun h1=>
    TN (.int .i64 (i:Int)) fun t12=>
    TP (.int .i64 (j:Int)) fun t13=>
    Hf (winM id N) (.int .i64 (a:Int)) cm t12 t13 h0.length h1)
theorem ABh {a i j:Nat} {d:Array Edg} (hN:N=d.size) (ha:a<N) (hj:j<N) (h:i>j):ptE h0 id N a i d j=some (.tup [.int .i64 (j:Int),.bool false],HB h0 id (Sort.swp d j a)):=by
 rw[ptE,Mc,Yd (by omega),Ak,TJ]
 refine(EM hid hN ha _).trans<|(EM hid hN hj _).trans<|(Fj hid hN hj ha _).trans ?_
 rw[TL,AEl hid hb62]
theorem AF1 {a i j:Nat} {d:Array Edg} (hN:N=d.size) (hj:j<N) (h1:1≤i) (h:¬i>j):ptE h0 id N a i d j=
 Hf (winM id N) (.int .i64 (a:Int)) cm (.int .i64 ((i+1:Nat):Int)) (.int .i64 ((j-1:Nat):Int)) h0.length (HB h0 id (Sort.swp d i j)):=by
 rw[ptE,Mc,Ye (by omega),AV,TM]
 refine(EM hid hN (by omega) _).trans<|(EM hid hN (by omega) _).trans<|(Fj hid hN (by omega) (by omega) _).trans ?_
 rw[TN]
 refine(Bd (b:=1) (by omega) _).trans ?_
 rw[TP]
 exact Bj (b:=1) (by omega) (by omega) _
theorem AEm (a m:Nat) (ha:a<N) {j:Nat} (hj:j<N) (d:Array Edg) (hN:N=d.size):∀(k i:Nat),j+1-i≤k→i≤N→
 TF (winM id N) (.int .i64 (a:Int)) cm (.int .i64 (i:Int)) (.int .i64 (j:Int)) h0.length m (HB h0 id d)=
  Nb (winM id N) (.int .i64 (a:Int)) cm (.int .i64 (Sort.scanUp (fun x=>ltE x d[a]!) d j i:Nat)) (.int .i64 (j:Int)) h0.length m (HB h0 id d):=by
 intro k
 induction k with
 |zero=>
  intro i hk hi
  rw[QL,TG,Ja (by omega),AV,AV,Dl,if_neg (by simp;omega)]
 |succ k ih=>
  intro i hk hi
  rw[QL,TG,Dl]
  by_cases hij:i≤j
  ·rw[Uh (by omega),Ak]
   refine(EM hid hN (by omega) _).trans<|(EM hid hN (by omega) _).trans<|(J5 _ _ _).trans ?_
   rw[Dv]
   by_cases hl:ltE d[i]! d[a]! =true
   ·rw[if_pos hl,if_pos (by simp[hij];simpa using hl),Xk]
    refine(Bd (b:=1) (by omega) _).trans ?_
    exact ih (i+1) (by omega) (by omega)
   ·rw[if_neg hl,if_neg (by simp[hij];simpa using hl)]
  ·rw[Ja (by omega),AV,AV,if_neg (by simp;omega)]
theorem AEn (a m i:Nat) (ha:a<N) (d:Array Edg) (hN:N=d.size) (hi:1≤i):∀(j:Nat),j<N→
 Nb (winM id N) (.int .i64 (a:Int)) cm (.int .i64 (i:Int)) (.int .i64 (j:Int)) h0.length m (HB h0 id d)=
  ptE h0 id N a i d (Sort.scanDown (fun x=> !ltE x d[a]!) d i j):=by
 intro j
 induction j with
 |zero=>
  intro hj
  rw[QK,TI,Ja (by omega),AV,AV,Sort.scanDown];rfl
 |succ j ih=>
  intro hj
  rw[QK,TI,Sort.scanDown]
  by_cases hij:i≤j+1
  ·rw[Uh (by omega),Ak]
   refine(EM hid hN (by omega) _).trans<|(EM hid hN (by omega) _).trans<|(J5 _ _ (fun b h1=>(un .not b).bind fun t=>_)).trans<|(TV _ _).trans ?_
   rw[Dv]
   by_cases hl:(!ltE d[j+1]! d[a]!)=true
   ·rw[if_pos hl,if_pos (by simp[hij];simpa using hl),Xl]
    refine(Bj (b:=1) (by omega) (by omega) _).trans ?_
    exact ih (by omega)
   ·rw[if_neg hl,if_neg (by simp[hij];simpa using hl)];rfl
  ·rw[Ja (by omega),AV,AV,if_neg (by simp;omega)];rfl
theorem AHw (a:Nat) (ha:a<N):∀(k i j:Nat) (d:Array Edg),N=d.size→j+1-i≤k→1≤i→i≤N→j<N→
 Hf (winM id N) (.int .i64 (a:Int)) cm (.int .i64 (i:Int)) (.int .i64 (j:Int)) h0.length (HB h0 id d)=
  some (.tup [.int .i64 ((Sort.partLoop ltE a i j d).1:Nat),.bool false],HB h0 id (Sort.swp (Sort.partLoop ltE a i j d).2 (Sort.partLoop ltE a i j d).1 a)):=by
 intro k
 induction k with
 |zero=>
  intro i j d hN hk hi hiN hj
  have u:=EG (fun x=>ltE x d[a]!) d j _ i (Nat.le_refl _)
  have w:=Cc (fun x=> !ltE x d[a]!) d (Sort.scanUp (fun x=>ltE x d[a]!) d j i) j
  rw[QM,AEm hid hb62 a _ ha hj d hN _ i (Nat.le_refl _) hiN,AEn hid hb62 a _ _ ha d hN (by omega) j hj,Lu a i j d hi]
  generalize Sort.scanUp (fun x=>ltE x d[a]!) d j i=i2 at*
  generalize Sort.scanDown (fun x=> !ltE x d[a]!) d i2 j=j2 at*
  rw[if_pos (by omega),ABh hid hb62 hN ha (by omega) (by omega)]
 |succ k ih=>
  intro i j d hN hk hi hiN hj
  have u:=EG (fun x=>ltE x d[a]!) d j _ i (Nat.le_refl _)
  have w:=Cc (fun x=> !ltE x d[a]!) d (Sort.scanUp (fun x=>ltE x d[a]!) d j i) j
  rw[QM,AEm hid hb62 a _ ha hj d hN _ i (Nat.le_refl _) hiN,AEn hid hb62 a _ _ ha d hN (by omega) j hj,Lu a i j d hi]
  generalize Sort.scanUp (fun x=>ltE x d[a]!) d j i=i2 at*
  generalize Sort.scanDown (fun x=> !ltE x d[a]!) d i2 j=j2 at*
  by_cases h:i2>j2
  ·rw[if_pos h,ABh hid hb62 hN ha (by omega) h]
  ·rw[if_neg h,AF1 hid hb62 hN (by omega) (by omega) h]
   exact ih (i2+1) (j2-1) _ (by rw[BL];exact hN) (by omega) (by omega) (by omega) (by omega)
def ptF (h0:List V) (id N a i:Nat) (d:Array Edg) (j:Nat):Option (V×List V):=
 S9 (.int .i64 (i:Int)) (.int .i64 (j:Int)) fun t=>
  V.ite t (WA (winM id N) (.int .i64 (a:Int)) (.int .i64 (j:Int)) (HB h0 id d) fun h1=>
   WB (.int .i64 (j:Int)) fun t10 t11=>
   if(List.all [t11,t10] V.okE)=true then AY h0.length h1 (V.tup [t10,t11])else none)
   (TA (winM id N) (.int .i64 (i:Int)) (.int .i64 (j:Int)) (HB h0 id d) fun h1=>
    TB (.int .i64 (i:Int)) fun t12=>
    TD (.int .i64 (j:Int)) fun t13=>
    Hf (winM id N) (.int .i64 (a:Int)) cm t12 t13 h0.length h1)
theorem AF2 {a i j:Nat} {d:Array Edg} (hN:N=d.size) (ha:a<N) (hj:j<N) (h:i>j):ptF h0 id N a i d j=some (.tup [.int .i64 (j:Int),.bool true],HB h0 id (Sort.swp d j a)):=by
 rw[ptF,S9,Yd (by omega),Ak,WA]
 refine(EM hid hN ha _).trans<|(EM hid hN hj _).trans<|(Fj hid hN hj ha _).trans ?_
 rw[WB,AEl hid hb62]
theorem AF3 {a i j:Nat} {d:Array Edg} (hN:N=d.size) (hj:j<N) (h1:1≤i) (h:¬i>j):ptF h0 id N a i d j=
 Hf (winM id N) (.int .i64 (a:Int)) cm (.int .i64 ((i+1:Nat):Int)) (.int .i64 ((j-1:Nat):Int)) h0.length (HB h0 id (Sort.swp d i j)):=by
 rw[ptF,S9,Ye (by omega),AV,TA]
 refine(EM hid hN (by omega) _).trans<|(EM hid hN (by omega) _).trans<|(Fj hid hN (by omega) (by omega) _).trans ?_
 rw[TB]
 refine(Bd (b:=1) (by omega) _).trans ?_
 rw[TD]
 exact Bj (b:=1) (by omega) (by omega) _
theorem AHy (a:Nat) (ha:a<N) {j:Nat} (hj:j<N) (d:Array Edg) (hN:N=d.size):∀(k i:Nat),j+1-i≤k→i≤N→
 Sz (winM id N) (.int .i64 (a:Int)) cm (.int .i64 (i:Int)) (.int .i64 (j:Int)) h0.length (HB h0 id d)=
  Na (winM id N) (.int .i64 (a:Int)) cm (.int .i64 (Sort.scanUp (fun x=>ltE x d[a]!) d j i:Nat)) (.int .i64 (j:Int)) h0.length (HB h0 id d):=by
 intro k
 induction k with
 |zero=>
  intro i hk hi
  rw[QO,V8,Ja (by omega),AV,AV,Dl,if_neg (by simp;omega)]
 |succ k ih=>
  intro i hk hi
  rw[QO,V8,Dl]
  by_cases hij:i≤j
  ·rw[Uh (by omega),Ak]
   refine(EM hid hN (by omega) _).trans<|(EM hid hN (by omega) _).trans<|(J5 _ _ _).trans ?_
   rw[Dv]
   by_cases hl:ltE d[i]! d[a]! =true
   ·rw[if_pos hl,if_pos (by simp[hij];simpa using hl),AA5]
    refine(Bd (b:=1) (by omega) _).trans ?_
    exact ih (i+1) (by omega) (by omega)
   ·rw[if_neg hl,if_neg (by simp[hij];simpa using hl)]
  ·rw[Ja (by omega),AV,AV,if_neg (by simp;omega)]
theorem AHz (a i:Nat) (ha:a<N) (d:Array Edg) (hN:N=d.size) (hi:1≤i):∀(j:Nat),j<N→
 Na (winM id N) (.int .i64 (a:Int)) cm (.int .i64 (i:Int)) (.int .i64 (j:Int)) h0.length (HB h0 id d)=
  ptF h0 id N a i d (Sort.scanDown (fun x=> !ltE x d[a]!) d i j):=by
 intro j
 induction j with
 |zero=>
  intro hj
  rw[QN,V9,Ja (by omega),AV,AV,Sort.scanDown];rfl
 |succ j ih=>
  intro hj
  rw[QN,V9,Sort.scanDown]
  by_cases hij:i≤j+1
  ·rw[Uh (by omega),Ak]
   refine(EM hid hN (by omega) _).trans<|(EM hid hN (by omega) _).trans<|(J5 _ _ (fun b h1=>(un .not b).bind fun t=>_)).trans<|(TV _ _).trans ?_
   rw[Dv]
   by_cases hl:(!ltE d[j+1]! d[a]!)=true
   ·rw[if_pos hl,if_pos (by simp[hij];simpa using hl),AA6]
    refine(Bj (b:=1) (by omega) (by omega) _).trans ?_
    exact ih (by omega)
   ·rw[if_neg hl,if_neg (by simp[hij];simpa using hl)];rfl
  ·rw[Ja (by omega),AV,AV,if_neg (by simp;omega)];rfl
theorem Xt {d:Array Edg} {a b p:Nat} (hN:N=d.size) (hb:b≤N) (ha:a<b) (hp:p<N):
 Cl 64 [winM id N,.int .i64 (a:Int),.int .i64 (b:Int),.int .i64 (p:Int),cm] (HB h0 id d)=
  some (.tup [.int .i64 ((Sort.partition ltE d a b p).1:Nat),.bool (Sort.partition ltE d a b p).2.1],HB h0 id (Sort.partition ltE d a b p).2.2):=by
 rw[AFY,AA2,AA3]
 refine(EM hid hN hp _).trans<|(EM hid hN (by omega) _).trans<|(Fj hid hN (by omega) hp _).trans ?_
 rw[AA4]
 refine(Bd (b:=1) (by omega) _).trans<|(Bj (b:=1) (by omega) (by omega) _).trans ?_
 have hN':N=(Sort.swp d a p).size:=by rw[BL];exact hN
 rw[CB,AHy hid hb62 a (by omega) (show b-1<N by omega) _ hN' _ (a+1) (Nat.le_refl _) (by omega)]
 have u:=EG (fun x=>ltE x (Sort.swp d a p)[a]!) (Sort.swp d a p) (b-1) _ (a+1) (Nat.le_refl _)
 have w:=Cc (fun x=> !ltE x (Sort.swp d a p)[a]!) (Sort.swp d a p) (Sort.scanUp (fun x=>ltE x (Sort.swp d a p)[a]!) (Sort.swp d a p) (b-1) (a+1)) (b-1)
 rw[AHz hid hb62 a _ (by omega) _ hN' (by omega) (b-1) (by omega),Sort.partition]
 simp only[]
 generalize Sort.scanUp (fun x=>ltE x (Sort.swp d a p)[a]!) (Sort.swp d a p) (b-1) (a+1)=i2 at*
 generalize Sort.scanDown (fun x=> !ltE x (Sort.swp d a p)[a]!) (Sort.swp d a p) i2 (b-1)=j2 at*
 by_cases h:i2>j2
 ·rw[if_pos h,AF2 hid hb62 hN' (by omega) (by omega) h]
 ·rw[if_neg h,AF3 hid hb62 hN' (by omega) (by omega) h]
  exact AHw hid hb62 a (by omega) _ (i2+1) (j2-1) _ (by rw[BL];exact hN') (Nat.le_refl _) (by omega) (by omega) (by omega)
end
end Ed
end
section
open Go AM
namespace Ed
theorem EN (d:Array Edg) (b i:Nat):Sort.scanSorted ltE d b i=if i<b&& !ltE d[i]! d[i-1]! then Sort.scanSorted ltE d b (i+1)else i:=by rw[Sort.scanSorted]
theorem PK (d:Array Edg) (b:Nat):∀k i,b-i≤k→i≤b→i≤Sort.scanSorted ltE d b i∧Sort.scanSorted ltE d b i≤b:=by
 intro k
 induction k with
 |zero=>intro i hk hi;rw[EN,if_neg (by simp;omega)];omega
 |succ k ih=>
  intro i hk hi
  rw[EN]
  split
  ·rename_i h
   have h1:i<b:=by simp at h;exact h.1
   have:=ih (i+1) (by omega) (by omega);omega
  ·omega
theorem Gh (b j:Nat) (d:Array Edg):Sort.shiftUp ltE b j d=if j<b then(if !ltE d[j]! d[j-1]! then d else Sort.shiftUp ltE b (j+1) (Sort.swp d j (j-1)))else d:=by rw[Sort.shiftUp]
theorem Hg:∀(j:Nat) (d:Array Edg),(Sort.shiftDown ltE j d).size=d.size
 |0,d=>rfl
 |j+1,d=>by
  rw[Sort.shiftDown];split
  ·rfl
  ·rw[Hg j,BL]
theorem TY (b:Nat):∀(k j:Nat) (d:Array Edg),b-j≤k→(Sort.shiftUp ltE b j d).size=d.size:=by
 intro k
 induction k with
 |zero=>intro j d hk;rw[Gh,if_neg (by omega)]
 |succ k ih=>
  intro j d hk
  rw[Gh]
  split
  ·split
   ·rfl
   ·rw[ih _ _ (by omega),BL]
  ·rfl
section
variable {h0:List V} {id N:Nat} (hid:id<h0.length) (hb62:N<1000000000000000000)
include hid hb62
theorem ABi {d:Array Edg} (x:Bool):AY h0.length (HB h0 id d) (.bool x)=some (.bool x,HB h0 id d):=by
 rw[ABd,List.take_of_length_le (by rw[CB];exact Nat.le_refl _)]
def Tc (h0:List V) (id N a b i s:Nat) (d:Array Edg):Option (V×List V):=
 EZ (winM id N) (.int .i64 (a:Int)) (.int .i64 (b:Int)) cm (.int .i64 (i:Int)) (.int .i64 ((s+1:Nat):Int)) h0.length (HB h0 id d)
theorem Xu {a b i s:Nat} {d:Array Edg} (hs:s<1000):(Gg (.int .i64 (s:Int)) fun t10=>
 EZ (winM id N) (.int .i64 (a:Int)) (.int .i64 (b:Int)) cm (.int .i64 (i:Int)) t10 h0.length (HB h0 id d))=Tc h0 id N a b i s d:=by
 rw[Gg];exact Bd (b:=1) (by omega) _
theorem AH0 (a b i s m:Nat) (hs:s<1000) (hb:b≤N):∀(k j:Nat) (d:Array Edg),N=d.size→b-j≤k→1≤j→j≤b→
 He (winM id N) (.int .i64 (a:Int)) (.int .i64 (b:Int)) cm (.int .i64 (i:Int)) (.int .i64 (s:Int)) (.int .i64 (j:Int)) h0.length m (HB h0 id d)=Tc h0 id N a b i s (Sort.shiftUp ltE b j d):=by
 intro k
 induction k with
 |zero=>
  intro j d hN hk h1 hj
  rw[QD,SY,Nq (by omega),AV,Xu hid hb62 hs,Gh,if_neg (by omega)]
 |succ k ih=>
  intro j d hN hk h1 hj
  rw[QD,SY,Gh]
  by_cases hjb:j<b
  ·rw[Ug (by omega),Ak,Xd,if_pos hjb]
   refine(EM hid hN (by omega) _).trans<|(Bj (b:=1) (by omega) (by omega) _).trans<|(EM hid hN (by omega) _).trans<|(J5 _ _ (fun b h1=>(un .not b).bind fun t=>_)).trans<|(TV _ _).trans ?_
   rw[Dv]
   by_cases hl:(!ltE d[j]! d[j-1]!)=true
   ·rw[if_pos hl,if_pos hl,Xu hid hb62 hs]
   ·rw[if_neg hl,if_neg hl,Xe]
    refine(Bj (b:=1) (by omega) (by omega) _).trans<|(Bj (b:=1) (by omega) (by omega) _).trans ?_
    refine(EM hid hN (by omega) _).trans<|(EM hid hN (by omega) _).trans<|(Fj hid hN (by omega) (by omega) _).trans ?_
    rw[Xf]
    refine(Bd (b:=1) (by omega) _).trans ?_
    exact ih (j+1) _ (by rw[BL];exact hN) (by omega) (by omega) (by omega)
  ·rw[Nq (by omega),AV,if_neg hjb,Xu hid hb62 hs]
def ADW (h0:List V) (id N a b i s m:Nat) (d:Array Edg):Option (V×List V):=
 Ie (.int .i64 (b:Int)) (.int .i64 (i:Int)) fun t104=>
  V.ite t104 (Ig (.int .i64 (i:Int)) fun t12=>
   He (winM id N) (.int .i64 (a:Int)) (.int .i64 (b:Int)) cm (.int .i64 (i:Int)) (.int .i64 (s:Int)) t12 h0.length m (HB h0 id d))
  (Gg (.int .i64 (s:Int)) fun t10=>
   EZ (winM id N) (.int .i64 (a:Int)) (.int .i64 (b:Int)) cm (.int .i64 (i:Int)) t10 h0.length (HB h0 id d))
theorem ADX (a b i s m:Nat) (hs:s<1000) (hb:b≤N) (hi:i<b) {d:Array Edg} (hN:N=d.size):ADW h0 id N a b i s m d=Tc h0 id N a b i s (if b-i≥2 then Sort.shiftUp ltE b (i+1) d else d):=by
 rw[ADW,Ie]
 refine(Bj (by omega) (by omega) _).trans ?_
 by_cases h:b-i≥2
 ·rw[J4 (by omega),Ak,Ig,if_pos h]
  refine(Bd (b:=1) (by omega) _).trans ?_
  exact AH0 hid hb62 a b i s m hs hb _ (i+1) d hN (Nat.le_refl _) (by omega) (by omega)
 ·rw[Kz (by omega),AV,if_neg h,Xu hid hb62 hs]
theorem AH1 (a b i s m:Nat) (hs:s<1000) (hb:b≤N) (hi:i<b):∀(j:Nat) (d:Array Edg),N=d.size→j<N→
 NW (winM id N) (.int .i64 (a:Int)) (.int .i64 (b:Int)) cm (.int .i64 (i:Int)) (.int .i64 (s:Int)) (.int .i64 (j:Int)) h0.length m (HB h0 id d)=ADW h0 id N a b i s m (Sort.shiftDown ltE j d):=by
 intro j
 induction j with
 |zero=>
  intro d hN hj
  rw[QE,Sj,Kz (by omega),AV,Sort.shiftDown];rfl
 |succ j ih=>
  intro d hN hj
  rw[QE,Sj,J4 (by omega),Ak,Xg,Sort.shiftDown]
  refine(EM hid hN (by omega) _).trans<|(Bj (b:=1) (by omega) (by omega) _).trans<|(EM hid hN (by omega) _).trans<|(J5 _ _ (fun b h1=>(un .not b).bind fun t=>_)).trans<|(TV _ _).trans ?_
  rw[Dv,Nat.add_sub_cancel]
  by_cases hl:(!ltE d[j+1]! d[j]!)=true
  ·rw[if_pos hl,if_pos hl];rfl
  ·rw[if_neg hl,if_neg hl,Xh]
   refine(Bj (b:=1) (by omega) (by omega) _).trans<|(Bj (b:=1) (by omega) (by omega) _).trans ?_
   rw[Nat.add_sub_cancel]
   refine(EM hid hN (by omega) _).trans<|(EM hid hN (by omega) _).trans<|(Fj hid hN (by omega) (by omega) _).trans ?_
   rw[Xi]
   refine(Bj (b:=1) (by omega) (by omega) _).trans ?_
   rw[Nat.add_sub_cancel]
   exact ih _ (by rw[BL];exact hN) (by omega)
def Td (h0:List V) (id N a b s m:Nat) (d:Array Edg) (i:Nat):Option (V×List V):=
 if i=b then some (.bool true,HB h0 id d)else if b-a<50 then some (.bool false,HB h0 id d)else
  ADW h0 id N a b i s m (if i-a≥2 then Sort.shiftDown ltE (i-1) (Sort.swp d i (i-1))else Sort.swp d i (i-1))
theorem AH2 (a b s m:Nat) (hs:s<1000) (hb:b≤N) (d:Array Edg) (hN:N=d.size):∀(k i:Nat),b-i≤k→a<i→i≤b→
 SQ (winM id N) (.int .i64 (a:Int)) (.int .i64 (b:Int)) cm (.int .i64 (i:Int)) (.int .i64 (s:Int)) h0.length m (HB h0 id d)=Td h0 id N a b s m d (Sort.scanSorted ltE d b i):=by
 have tail:∀i,a<i→i≤b→
  (Vy (.int .i64 (b:Int)) (.int .i64 (i:Int)) fun t41_7=>
   V.ite t41_7 (Vz fun t8_8=>AY h0.length (HB h0 id d) t8_8)
   (V3 (.int .i64 (a:Int)) (.int .i64 (b:Int)) fun t45_9=>
   V.ite t45_9 (SS fun t8_10=>AY h0.length (HB h0 id d) t8_10)
   (SV (winM id N) (.int .i64 (i:Int)) (HB h0 id d) fun h_11=>
   SX (.int .i64 (a:Int)) (.int .i64 (i:Int)) fun t65_12=>
   jn (fun h_13=>Ie (.int .i64 (b:Int)) (.int .i64 (i:Int)) fun t104_14=>
    V.ite t104_14
    (Ig (.int .i64 (i:Int)) fun t12_15=>
    He (winM id N) (.int .i64 (a:Int)) (.int .i64 (b:Int)) cm (.int .i64 (i:Int)) (.int .i64 (s:Int)) t12_15 h0.length m h_13)
    (Gg (.int .i64 (s:Int)) fun t10_23=>
    EZ (winM id N) (.int .i64 (a:Int)) (.int .i64 (b:Int)) cm (.int .i64 (i:Int)) t10_23 h0.length h_13))
   (fun(j0:List V→Option (V×List V))=>V.ite t65_12
    (Si (.int .i64 (i:Int)) fun t11_24=>
    NW (winM id N) (.int .i64 (a:Int)) (.int .i64 (b:Int)) cm (.int .i64 (i:Int)) (.int .i64 (s:Int)) t11_24 h0.length m h_11)
    (j0 h_11)))))=Td h0 id N a b s m d i:=by
  intro i h1 h2
  rw[Vy,Td]
  by_cases hib:i=b
  ·rw[Ya (by omega),Ak,Vz,if_pos hib,ABi hid hb62]
  rw[Yb (by omega),AV,V3,if_neg hib]
  refine(Bj (by omega) (by omega) _).trans ?_
  by_cases h50:b-a<50
  ·rw[Ug (by omega),Ak,SS,if_pos h50,ABi hid hb62]
  rw[Nq (by omega),AV,SV,if_neg h50]
  refine(Bj (b:=1) (by omega) (by omega) _).trans<|(Bj (b:=1) (by omega) (by omega) _).trans ?_
  refine(EM hid hN (by omega) _).trans<|(EM hid hN (by omega) _).trans<|(Fj hid hN (by omega) (by omega) _).trans ?_
  rw[SX]
  refine(Bj (by omega) (by omega) _).trans ?_
  have hN':N=(Sort.swp d i (i-1)).size:=by rw[BL];exact hN
  by_cases h2':i-a≥2
  ·rw[J4 (by omega),if_pos h2']
   simp only[jn]
   rw[Ak,Si]
   refine(Bj (b:=1) (by omega) (by omega) _).trans ?_
   exact AH1 hid hb62 a b i s m hs hb (by omega) (i-1) _ hN' (by omega)
  ·rw[Kz (by omega),if_neg h2']
   simp only[jn]
   rw[AV];rfl
 intro k
 induction k with
 |zero=>
  intro i hk h1 h2
  rw[QF,Vx,Nq (by omega),AV,AV,EN,if_neg (by simp;omega)]
  exact tail i h1 h2
 |succ k ih=>
  intro i hk h1 h2
  rw[QF,Vx,EN]
  by_cases hib:i<b
  ·rw[Ug (by omega),Ak]
   refine(EM hid hN (by omega) _).trans<|(Bj (b:=1) (by omega) (by omega) _).trans<|(EM hid hN (by omega) _).trans<|(J5 _ _ (fun b h1=>(un .not b).bind fun t=>_)).trans<|(TV _ _).trans ?_
   rw[Dv]
   by_cases hl:(!ltE d[i]! d[i-1]!)=true
   ·rw[if_pos hl,if_pos (by simp[hib];simpa using hl),AAw]
    refine(Bd (b:=1) (by omega) _).trans ?_
    exact ih (i+1) (by omega) (by omega) (by omega)
   ·rw[if_neg hl,if_neg (by simp[hib];simpa using hl)]
    exact tail i h1 h2
  ·rw[Nq (by omega),AV,AV,if_neg (by simp;omega)]
   exact tail i h1 h2
theorem AH3 (a b:Nat) (hb:b≤N):∀(n s i:Nat) (d:Array Edg),N=d.size→s+n=5→a<i→i≤b→
 EZ (winM id N) (.int .i64 (a:Int)) (.int .i64 (b:Int)) cm (.int .i64 (i:Int)) (.int .i64 (s:Int)) h0.length (HB h0 id d)=
  some (.bool (Sort.partialIns ltE a b n i d).2,HB h0 id (Sort.partialIns ltE a b n i d).1):=by
 intro n
 induction n with
 |zero=>
  intro s i d hN hs h1 h2
  rw[QG,Vw,Nq (by omega),AV,Xj,ABi hid hb62];rfl
 |succ n ih=>
  intro s i d hN hs h1 h2
  rw[QG,Vw,Ug (by omega),Ak,AH2 hid hb62 a b s _ (by omega) hb d hN _ i (Nat.le_refl _) h1 h2]
  have sl:=PK d b _ i (Nat.le_refl _) h2
  rw[Sort.partialIns,Td]
  simp only[]
  generalize Sort.scanSorted ltE d b i=i2 at*
  by_cases hib:i2=b
  ·rw[if_pos hib,if_pos hib]
  rw[if_neg hib,if_neg hib]
  by_cases h50:b-a<50
  ·rw[if_pos h50,if_pos h50]
  rw[if_neg h50,if_neg h50]
  have hN':N=(Sort.swp d i2 (i2-1)).size:=by rw[BL];exact hN
  generalize hd2:(if i2-a≥2 then Sort.shiftDown ltE (i2-1) (Sort.swp d i2 (i2-1))else Sort.swp d i2 (i2-1))=d2
  have hN2:N=d2.size:=by rw[←hd2];split;rw[Hg];exact hN';exact hN'
  rw[ADX hid hb62 a b i2 s _ (by omega) hb (by omega) hN2,Tc]
  refine ih (s+1) i2 _ ?_ (by omega) (by omega) (by omega)
  split
  ·rw[TY _ _ _ _ (Nat.le_refl _)];exact hN2
  ·exact hN2
theorem WS {d:Array Edg} {a b:Nat} (hN:N=d.size) (hb:b≤N) (ha:a<b):
 Cl 62 [winM id N,.int .i64 (a:Int),.int .i64 (b:Int),cm] (HB h0 id d)=
  some (.bool (Sort.partialInsertionSort ltE d a b).2,HB h0 id (Sort.partialInsertionSort ltE d a b).1):=by
 rw[AFW,AAt,AAu]
 refine(Bd (b:=1) (by omega) _).trans ?_
 rw[AAv,CB]
 exact AH3 hid hb62 a b hb 5 0 (a+1) d hN rfl (by omega) (by omega)
end
end Ed
end
section
open Go AM
namespace Ed
abbrev iv (n:Nat):V:= .int .i64 (n:Int)
def rSw (sid:Nat):V:= .ref sid [] 3
theorem Ns (n:Nat) {h:List V} {a b:Int}:(if(List.all [V.int .i64 b,V.int .i64 a] V.okE)=true then AY n h (V.tup [.int .i64 a,.int .i64 b])else none)=some (.tup [.int .i64 a,.int .i64 b],h.take n):=rfl
theorem AH4 (n:Nat):Ee P 3 (iv n)=true:=by simp[Ee,K_3,Bv,ABY,iv]
theorem Yg {B:Type} (a b:V) (K:V→Option B):(ext (.tup [a,b]) 0).bind K=K a:=rfl
theorem Yh {B:Type} (a b:V) (K:V→Option B):(ext (.tup [a,b]) 1).bind K=K b:=rfl
section
variable {id sid N:Nat} (hb62:N<1000000000000000000) (hne:sid≠id) {d:Array Edg} (hN:N=d.size)
include hb62 hne hN
theorem LC {h:List V} {a b s:Nat} (hd:h[id]?=some (rowM d)) (hs:h[sid]?=some (iv s)) (ha:a<N) (hb:b<N) (h62:s<1000000000000000000):
 Cl 97 [winM id N,iv a,iv b,rSw sid,cm] h=
  some (.tup [iv (Sort.order2 ltE d a b s).1,iv (Sort.order2 ltE d a b s).2.1],h.set sid (iv (Sort.order2 ltE d a b s).2.2)):=by
 rw[AFj,ABT,ABU]
 refine(atM hd hN hb _).trans<|(atM hd hN ha _).trans<|(J5 _ _ _).trans ?_
 rw[Dv,Sort.order2]
 by_cases hl:ltE d[b]! d[a]! =true
 ·rw[if_pos hl,if_pos hl,ABV]
  refine(AB (show CP (rSw sid)=some (rSw sid)from rfl) _).trans<|(AB (Md (v:=iv s) (WO hs)) _).trans<|(Bd (b:=1) (by omega) _).trans ?_
  refine(AB (show CP (rSw sid)=some (rSw sid)from rfl) _).trans<|(AB (TU hs (AH4 (s+1)) rfl) _).trans ?_
  rw[ABW]
  refine(Ns _).trans ?_
  rw[List.take_of_length_le (by simp)]<;>rfl
 ·rw[if_neg hl,if_neg hl,ABX]
  refine(Ns _).trans ?_
  rw[List.take_of_length_le (by simp)]
  simp only[]
  rw[ADM hs]<;>rfl
theorem Hl (a b s:Nat):(Sort.order2 ltE d a b s).2.2≤s+1:=by rw[Sort.order2];split<;>simp
theorem Fz {a b s:Nat} (ha:a<N) (hb:b<N):(Sort.order2 ltE d a b s).1<N∧(Sort.order2 ltE d a b s).2.1<N:=by rw[Sort.order2];split<;>exact⟨by assumption,by assumption⟩
theorem AH5 (a b:Nat):Ac [(winM id N).weak,iv a,iv b,rSw sid,cm]=[winM id N,iv a,iv b,rSw sid,cm]:=rfl
theorem LD {h:List V} {a b c s:Nat} (hd:h[id]?=some (rowM d)) (hs:h[sid]?=some (iv s)) (ha:a<N) (hb:b<N) (hc:c<N) (h62:s<100000000000000000):
 Cl 84 [winM id N,iv a,iv b,iv c,rSw sid,cm] h=
  some (iv (Sort.median ltE d a b c s).1,h.set sid (iv (Sort.median ltE d a b c s).2)):=by
 have g:∀{h:List V} {s:Nat} (x:Nat),h[sid]?=some (iv s)→(h.set sid (iv x))[sid]?=some (iv x):=fun x hs=>Ii _ hs
 have g2:∀{h:List V} (x:Nat),h[id]?=some (rowM d)→(h.set sid (iv x))[id]?=some (rowM d):=fun x hd=>by rw[Nj _ (Ne.symm hne)];exact hd
 have l1:=Fz hb62 hne hN (s:=s) ha hb
 have s1:=Hl hb62 hne hN a b s
 rw[AFi,ABO,ABP,AH5 hb62 hne hN]
 refine(AB (LC hb62 hne hN hd hs ha hb (by omega)) _).trans<|(Yg _ _ _).trans<|(Yh _ _ _).trans ?_
 rw[Sort.median]
 simp only[]
 generalize Sort.order2 ltE d a b s=r1 at*
 have l2:=Fz hb62 hne hN (s:=r1.2.2) l1.2 hc
 have s2:=Hl hb62 hne hN r1.2.1 c r1.2.2
 rw[ABQ]
 refine(AB (LC hb62 hne hN (g2 _ hd) (g _ hs) l1.2 hc (by omega)) _).trans<|(Yg _ _ _).trans<|(Yh _ _ _).trans ?_
 generalize Sort.order2 ltE d r1.2.1 c r1.2.2=r2 at*
 rw[ABR]
 rw[List.set_set]
 refine(AB (LC hb62 hne hN (g2 _ hd) (g _ hs) l1.1 l2.1 (by omega)) _).trans<|(Yg _ _ _).trans<|(Yh _ _ _).trans ?_
 generalize Sort.order2 ltE d r1.1 r2.1 r2.2.2=r3 at*
 rw[ABS,List.set_set]
 show AY h.length (h.set sid (iv r3.2.2)) (.int .i64 _)=_
 rw[Ij,List.take_of_length_le (by simp)]<;>rfl
theorem LG {a b c s:Nat} (ha:a<N) (hb:b<N) (hc:c<N):(Sort.median ltE d a b c s).1<N∧(Sort.median ltE d a b c s).2≤s+3:=by
 have l1:=Fz hb62 hne hN (s:=s) ha hb
 have s1:=Hl hb62 hne hN a b s
 rw[Sort.median]
 simp only[]
 generalize Sort.order2 ltE d a b s=r1 at*
 have l2:=Fz hb62 hne hN (s:=r1.2.2) l1.2 hc
 have s2:=Hl hb62 hne hN r1.2.1 c r1.2.2
 generalize Sort.order2 ltE d r1.2.1 c r1.2.2=r2 at*
 have l3:=Fz hb62 hne hN (s:=r2.2.2) l1.1 l2.1
 have s3:=Hl hb62 hne hN r1.1 r2.1 r2.2.2
 exact⟨l3.2,by omega⟩
theorem LH {h:List V} {a s:Nat} (hd:h[id]?=some (rowM d)) (hs:h[sid]?=some (iv s)) (h1:1≤a) (ha:a+1<N) (h62:s<100000000000000000):
 Cl 83 [winM id N,iv a,rSw sid,cm] h=
  some (iv (Sort.medianAdjacent ltE d a s).1,h.set sid (iv (Sort.medianAdjacent ltE d a s).2)):=by
 rw[AFh,ABM,ABN]
 refine(Bj (b:=1) (by omega) (by omega) _).trans<|(Bd (b:=1) (by omega) _).trans ?_
 refine(AB (LD (a:=a-1) (b:=a) (c:=a+1) hb62 hne hN hd hs (by omega) (by omega) (by omega) h62) _).trans ?_
 rw[Sort.medianAdjacent]
 show AY h.length _ (.int .i64 _)=_
 rw[Ij,List.take_of_length_le (by simp)]<;>rfl
end
section
variable {h0:List V} {id N:Nat} (hid:id<h0.length) (hb62:N<1000000000000000000)
include hid hb62
def Uj:Sort.Hint→Nat
 | .unknown=>0
 | .increasing=>1
 | .decreasing=>2
theorem ABj {d:Array Edg} {a b:Nat} (hN:N=d.size) (hb:b≤N) (ha:a<b):
 Cl 60 [winM id N,iv a,iv b,cm] (HB h0 id d)=
  some (.tup [iv (Sort.choosePivot ltE d a b).1,iv (Uj (Sort.choosePivot ltE d a b).2)],HB h0 id d):=by
 have hz:zero P 3=iv 0:=by rw[AJP];rfl
 have hne:h0.length≠id:=by omega
 have hd:∀x:V,(HB h0 id d++[x])[id]?=some (rowM d):=fun x=>Xo _ (Nr hid d)
 have hs:∀x:V,(HB h0 id d++[x])[h0.length]?=some x:=fun x=>by
  have:=Nh (HB h0 id d) x;rw[CB]at this;exact this
 have st:∀x y:V,(HB h0 id d++[x]).set h0.length y=HB h0 id d++[y]:=fun x y=>by
  have:=Nk (HB h0 id d) x y;rw[CB]at this;exact this
 have q:∀(l:Nat) (k:Nat),l<1000000000000000000→k≤3→∀K:V→Option (V×List V),((AL .quo (.int .i64 (l:Int)) (.int .i64 4)).bind fun t=>(AL .mul t (.int .i64 (k:Int))).bind fun t=>(AL .add (.int .i64 (a:Int)) t).bind K)=K (iv (a+l/4*k)):=by
  intro l k hl hk K
  have hm:l/4*k≤l:=by
   have:l/4*k≤l/4*3:=Nat.mul_le_mul_left _ hk
   omega
  refine(AB (Ls _ _ _ (by omega)) _).trans ?_
  rw[show(l:Int).tdiv 4=((l/4:Nat):Int)by rfl,Ad (by omega) (by omega)]
  refine(YZ (by omega) _).trans ?_
  exact Bd (by omega) _
 have RF:∀(p s:Nat),
  (SC (rSw h0.length) (HB h0 id d++[iv s]) fun t55_10=>
   SE t55_10 fun t57_11=>
   V.ite t57_11
   (SG (iv p) fun t8_12 t9_13=>
   if(List.all [t9_13,t8_12] V.okE)=true then AY (List.length (HB h0 id d)) (HB h0 id d++[iv s]) (V.tup [t8_12,t9_13])else none)
   (SH t55_10 fun t60_14=>
   V.ite t60_14
   (SI (iv p) fun t8_15 t9_16=>
   if(List.all [t9_16,t8_15] V.okE)=true then AY (List.length (HB h0 id d)) (HB h0 id d++[iv s]) (V.tup [t8_15,t9_16])else none)
   (SK (iv p) fun t8_17 t9_18=>
   if(List.all [t9_18,t8_17] V.okE)=true then AY (List.length (HB h0 id d)) (HB h0 id d++[iv s]) (V.tup [t8_17,t9_18])else none)))=
  some (.tup [iv p,iv (Uj (if s=0 then .increasing else if s=12 then .decreasing else .unknown))],HB h0 id d):=by
  intro p s
  rw[SC]
  refine(AB (Md (WO (hs (iv s)))) _).trans ?_
  rw[SE]
  by_cases h0':s=0
  ·refine(Ya (by omega) _).trans ?_
   rw[Ak,SG,if_pos h0']
   refine(Ns _).trans ?_
   rw[Jz];rfl
  refine(Yb (by omega) _).trans ?_
  rw[AV,SH,if_neg h0']
  by_cases h12:s=12
  ·refine(Ya (by omega) _).trans ?_
   rw[Ak,SI,if_pos h12]
   refine(Ns _).trans ?_
   rw[Jz];rfl
  ·refine(Yb (by omega) _).trans ?_
   rw[AV,SK,if_neg h12]
   refine(Ns _).trans ?_
   rw[Jz];rfl
 rw[AFU,AAe,AAf]
 refine(Bj (by omega) (by omega) _).trans ?_
 rw[AAg,hz,AAh]
 rw[show(HB h0 id d).length=h0.length from CB d]at*
 refine(q (b-a) 1 (by omega) (by omega) _).trans ?_
 rw[AAi]
 refine(q (b-a) 2 (by omega) (by omega) _).trans ?_
 rw[AAj]
 refine(q (b-a) 3 (by omega) (by omega) _).trans ?_
 rw[AAk,Sort.choosePivot]
 simp only[]
 by_cases h8:b-a≥8
 ·refine(J4 (by omega) _).trans ?_
  simp only[jn]
  rw[Ak,AAl,if_pos h8]
  by_cases h50:b-a≥50
  ·refine(J4 (by omega) _).trans ?_
   rw[Ak,if_pos h50]
   have i1:1≤a+(b-a)/4*1∧a+(b-a)/4*1+1<N:=by omega
   have i2:1≤a+(b-a)/4*2∧a+(b-a)/4*2+1<N:=by omega
   have i3:1≤a+(b-a)/4*3∧a+(b-a)/4*3+1<N:=by omega
   have m1:=LG hb62 hne hN (a:=a+(b-a)/4*1-1) (b:=a+(b-a)/4*1) (c:=a+(b-a)/4*1+1) (s:=0) (by omega) (by omega) (by omega)
   have m1':Sort.median ltE d (a+(b-a)/4*1-1) (a+(b-a)/4*1) (a+(b-a)/4*1+1) 0=Sort.medianAdjacent ltE d (a+(b-a)/4*1) 0:=rfl
   rw[m1']at m1
   rw[AAm]
   refine(AB (LH (s:=0) hb62 hne hN (hd _) (hs _) i1.1 i1.2 (by omega)) _).trans ?_
   generalize Sort.medianAdjacent ltE d (a+(b-a)/4*1) 0=r1 at*
   have m2:=LG hb62 hne hN (a:=a+(b-a)/4*2-1) (b:=a+(b-a)/4*2) (c:=a+(b-a)/4*2+1) (s:=r1.2) (by omega) (by omega) (by omega)
   have m2':Sort.median ltE d (a+(b-a)/4*2-1) (a+(b-a)/4*2) (a+(b-a)/4*2+1) r1.2=Sort.medianAdjacent ltE d (a+(b-a)/4*2) r1.2:=rfl
   rw[m2']at m2
   rw[AAn,st]
   refine(AB (LH hb62 hne hN (hd _) (hs _) i2.1 i2.2 (by omega)) _).trans ?_
   generalize Sort.medianAdjacent ltE d (a+(b-a)/4*2) r1.2=r2 at*
   have m3:=LG hb62 hne hN (a:=a+(b-a)/4*3-1) (b:=a+(b-a)/4*3) (c:=a+(b-a)/4*3+1) (s:=r2.2) (by omega) (by omega) (by omega)
   have m3':Sort.median ltE d (a+(b-a)/4*3-1) (a+(b-a)/4*3) (a+(b-a)/4*3+1) r2.2=Sort.medianAdjacent ltE d (a+(b-a)/4*3) r2.2:=rfl
   rw[m3']at m3
   rw[Xc,st]
   refine(AB (LH hb62 hne hN (hd _) (hs _) i3.1 i3.2 (by omega)) _).trans ?_
   generalize Sort.medianAdjacent ltE d (a+(b-a)/4*3) r2.2=r3 at*
   rw[SL,st]
   refine(AB (LD hb62 hne hN (hd _) (hs _) m1.1 m2.1 m3.1 (by omega)) _).trans ?_
   rw[st]
   exact RF _ _
  ·refine(Kz (by omega) _).trans ?_
   rw[AV,if_neg h50,SL]
   refine(AB (LD (s:=0) hb62 hne hN (hd _) (hs _) (by omega) (by omega) (by omega) (by omega)) _).trans ?_
   rw[st]
   exact RF _ _
 ·refine(Kz (by omega) _).trans ?_
  simp only[jn]
  rw[AV,if_neg h8]
  exact RF _ 0
end
end Ed
end
end Go.Proofs.YtaghnpjlhmgioaaDoor
