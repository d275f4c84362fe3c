/-
  Part of the proof of a statement about the given program: an abstract machine over its code, the simulation, its functions' equations, what they compute.
-/
import Derived.Sort.Defs
import Derived.Test.YtaghnpjlhmgioaaDoorMg10
import Derived.Test.YtaghnpjlhmgioaaDoorMg5
import Derived.Test.YtaghnpjlhmgioaaDoorMg9
set_option linter.unusedVariables false
set_option linter.unusedSimpArgs false
set_option linter.unusedSectionVars false
set_option maxRecDepth 100000
noncomputable section
namespace Go.Proofs.YtaghnpjlhmgioaaDoor
section
open Go AM
namespace Ed
structure Edg where
 fr:Nat
 to:Nat
 w:Int
 hf:fr<64
 ht:to<64
instance:Inhabited Edg:=⟨⟨0,0,0,by omega,by omega⟩⟩
def vEdg (e:Edg):V:= .agg 44 [.int .i64 (e.fr:Int),.int .i64 (e.to:Int),.int .i64 e.w]
def cmpE (x y:Edg):Int:=if x.fr=y.fr then(x.to:Int)-y.to else(x.fr:Int)-y.fr
def ltE (x y:Edg):Bool:=decide (cmpE x y<0)
theorem Yd {B:Type} {k:IntKind} {a b:Int} (h:b<a) (K:V→Option B):(AL .gtr (.int k a) (.int k b)).bind K=K (.bool true):=by
 rw[b_gtr,Option.bind_some,decide_eq_true h]
theorem Ye {B:Type} {k:IntKind} {a b:Int} (h:¬b<a) (K:V→Option B):(AL .gtr (.int k a) (.int k b)).bind K=K (.bool false):=by
 rw[b_gtr,Option.bind_some,decide_eq_false h]
theorem Uh {B:Type} {k:IntKind} {a b:Int} (h:a≤b) (K:V→Option B):(AL .leq (.int k a) (.int k b)).bind K=K (.bool true):=by
 rw[b_leq,Option.bind_some,decide_eq_true h]
theorem Ja {B:Type} {k:IntKind} {a b:Int} (h:¬a≤b) (K:V→Option B):(AL .leq (.int k a) (.int k b)).bind K=K (.bool false):=by
 rw[b_leq,Option.bind_some,decide_eq_false h]
theorem TV {B:Type} (b:Bool) (K:V→Option B):(un .not (.bool b)).bind K=K (.bool (!b)):=rfl
@[go_sem] theorem AI8 (x:Edg):(vEdg x).pl=true:=(rfl)
@[go_sem] theorem AHq (x:Edg):Gy 44 (vEdg x)=true:=AEg ..
theorem compare_am (x y:Edg):Cl 28 [vEdg x,vEdg y] []=some (.int .i64 (cmpE x y),[]):=by
 have h1:=x.hf;have h2:=x.ht;have h3:=y.hf;have h4:=y.ht
 rw[AFE,cmpE]
 by_cases h:x.fr=y.fr
 ·rw[if_pos h]
  simp only[vEdg]
  simp(disch:=first|assumption|omega|(with_reducible rfl)|(simp only[go_sem];done)|(simp only[go_sem];omega)|fail) only[↓reduceIte,↓AA,Nat.reduceAdd,go_sem,h]
 ·rw[if_neg h]
  have:¬(x.fr:Int)=(y.fr:Int):=by omega
  simp only[vEdg]
  simp(disch:=first|assumption|omega|(with_reducible rfl)|(simp only[go_sem];done)|(simp only[go_sem];omega)|fail) only[↓reduceIte,↓AA,Nat.reduceAdd,go_sem]
theorem AHr (m:Edg):Ee P 45 (vEdg m)=true:=by simp[Ee,AJR,vEdg]
theorem J5 {B:Type} {h:List V} (x y:Edg) (K:V→List V→Option B):
 BQ P Df W (.clo 28 []) [vEdg x,vEdg y] h (fun t h1=>if V.noOwn t=true then(AL .lss t (.int .i64 0)).bind (fun b=>K b h1)else none)=K (.bool (ltE x y)) h:=by
 rw[ADO _ (by kernel_rfl) (by kernel_rfl)]
 have e:AZ h ([vEdg x,vEdg y]++[])=[vEdg x,vEdg y]:=rfl
 rw[e]
 refine(AB (compare_am x y) _).trans ?_
 show(if true=true then _ else none)=_
 rw[if_pos rfl,b_lss];rfl
def rowM (d:Array Edg):V:= .row 45 (d.toList.map vEdg)
def winM (id n:Nat):V:= .win id [] 0 n 45
theorem Ui {d:Array Edg} {i:Nat} (hi:i<d.size):(d.toList.map vEdg)[i]?=some (vEdg d[i]!):=by
 simp[hi]
theorem ABf (d:Array Edg) (i:Nat) (m:Edg):(d.toList.map vEdg).set i (vEdg m)=(d.setIfInBounds i m).toList.map vEdg:=by
 simp[List.map_set]
theorem ixM {id n i:Nat} (hi:i<n):AP P 22 (V.weak (winM id n)) (.int .i64 (i:Int))=some (.ref id [i] 45):=by
 have:Bz (i:Int) n=true:=by simp[Bz,hi]
 simp[AP,winM,V.weak,AJQ,this]
theorem atM {B:Type} {h:List V} {id n i:Nat} {d:Array Edg} (hh:h[id]?=some (rowM d)) (hn:n=d.size) (hi:i<n) (K:V→Option B):
 (AP P 22 (V.weak (winM id n)) (.int .i64 (i:Int))).bind (fun a=>(A8 h 45 a).bind K)=K (vEdg d[i]!):=by
 refine(AB (ixM hi) _).trans ?_
 exact AB (Md (AFn hh (Ui (by omega)))) K
theorem stM {B:Type} {h:List V} {id n i:Nat} {d:Array Edg} (hh:h[id]?=some (rowM d)) (hn:n=d.size) (hi:i<n) (m:Edg) (K:List V→Option B):
 (AP P 22 (V.weak (winM id n)) (.int .i64 (i:Int))).bind (fun a=>(EY P h 45 a (vEdg m)).bind K)=K (h.set id (rowM (d.setIfInBounds i m))):=by
 refine(AB (ixM hi) _).trans ?_
 refine(AB (ADL hh (Ui (by omega)) (AHr m) rfl) _).trans ?_
 rw[ABf];rfl
theorem AJv {B:Type} {h:List V} {id n i j:Nat} {d:Array Edg} (hh:h[id]?=some (rowM d)) (hn:n=d.size) (hi:i<n) (hj:j<n) (K:List V→Option B):
 (AP P 22 (V.weak (winM id n)) (.int .i64 (j:Int))).bind (fun a=>(A8 h 45 a).bind fun x=>
  (AP P 22 (V.weak (winM id n)) (.int .i64 (i:Int))).bind fun b=>(A8 h 45 b).bind fun y=>
  (AP P 22 (V.weak (winM id n)) (.int .i64 (i:Int))).bind fun c=>(EY P h 45 c x).bind fun h1=>
  (AP P 22 (V.weak (winM id n)) (.int .i64 (j:Int))).bind fun e=>(EY P h1 45 e y).bind K)=K (h.set id (rowM (Sort.swp d i j))):=by
 refine(atM hh hn hj _).trans<|(atM hh hn hi _).trans<|(stM hh hn hi _ _).trans ?_
 refine(stM (Ii _ hh) (by simp[hn]) hj _ _).trans ?_
 rw[List.set_set];rfl
theorem BL (d:Array Edg) (i j:Nat):(Sort.swp d i j).size=d.size:=by simp[Sort.swp]
end Ed
end
end Go.Proofs.YtaghnpjlhmgioaaDoor
