/-
  Part of the proof of a statement about the given program: an abstract machine over its code, the simulation, its functions' equations, what they compute.
-/
import Derived.Test.YtkelgdjhpgefnaaGreatDoorMg3
import Derived.Test.YtkelgdjhpgefnaaGreatDoorMg5
import Derived.Test.YtkelgdjhpgefnaaGreatDoorMg7
import Derived.Test.YtkelgdjhpgefnaaGreatDoorMg9
set_option linter.unusedVariables false
set_option linter.unusedSimpArgs false
set_option linter.unusedSectionVars false
set_option maxRecDepth 100000
noncomputable section
namespace Go.Proofs.YtkelgdjhpgefnaaGreatDoor
section
open Go AM
def vU (f:Fl) (l:List Nat):V:= .lst 58 f (l.map fun(d:Nat)=> .int .u32 (d:Int))
def U8 (n:Nat) (D:List Nat) (at_ i:Nat):Bool:=decide (D.getD i 0%n=at_)
def Nl (n:Nat) (D:List Nat) (at_:Nat):Nat→Nat→Bool
 |0,_=>false
 |m+1,i=>U8 n D at_ i||Nl n D at_ m (i+1)
def DY (n:Nat) (k:Int) (D:List Nat) (at_:Nat):Bool:=decide (k<0∨(n:Int)≤k)||Nl n D at_ k.toNat 0
def GH (n:Int) (k:Int) (D:List Nat):List Nat:=if 1≤n∧n≤64 then(List.range n.toNat).filter (DY n.toNat k D)else[]
theorem Sj {D:List Nat} {i:Nat} (h:i<D.length):D.getD i 0=D[i]:=by simp[List.getD,h]
theorem Sm {D:List Nat} {i:Nat} (h:D.length≤i):D.getD i 0=0:=by simp[List.getD,h]
section
variable {n:Nat} {D:List Nat}
theorem Vq (h1:1≤n) (hn:n≤64) (hD:∀d∈D,d<4294967296) (hl:D.length≤1000000) {k:Nat} (hk:k<1000000) {at_:Nat} (ha:at_<64):∀(m i:Nat),i+m=k→
 NS (.int .i64 (at_:Int)) (.ref 0 [] 3) (.ref 2 [] 22) (.int .i64 (k:Int)) (.int .i64 (i:Int)) 3 [.int .i64 (n:Int),.int .i64 (k:Int),vU .sh D]=some (.bool (Nl n D at_ m i),[.int .i64 (n:Int),.int .i64 (k:Int),vU .sh D]):=by
 intro m
 have l3:∀x:List V,GI [.int .i64 (n:Int),.int .i64 (k:Int),.lst 58 .sh x] 22 (.ref 2 [] 22)=some (.lst 58 .sh x):=fun x=>rfl
 have l0:∀x:V,BK [.int .i64 (n:Int),.int .i64 (k:Int),x] 3 (.ref 0 [] 3)=some (.int .i64 (n:Int)):=fun x=>rfl
 induction m with
 |zero=>
  intro i hi
  have ls:AQ .lss (.int .i64 (i:Int)) (.int .i64 (k:Int))=some (.bool false):=by rw[b_lss,decide_eq_false (by omega)]
  rw[Nl,ET]
  (repeat' with_reducible first|refine(BD _ _).trans ?_|refine(BI _ _).trans ?_|refine(AO _ _).trans ?_|((first|(refine' (AA ?_ _).trans ?_;rotate_left)|refine(if_pos ?_).trans ?_|refine(Af ?_ _ _).trans ?_);focus (first|rfl|(simp(disch:=first|assumption|omega|with_reducible rfl|(simp only[go_sem]<;>omega)|fail) only[↓reduceIte,↓AO,Nat.reduceAdd,go_sem,Bool.not_true,Bool.not_false,ls]<;>first|rfl|omega)|assumption|omega))|(refine(Aa ?_ _ _).trans ?_;focus (first|(simp(disch:=first|assumption|omega|with_reducible rfl|(simp only[go_sem]<;>omega)|fail) only[↓reduceIte,↓AO,Nat.reduceAdd,go_sem,Bool.not_true,Bool.not_false,ls]<;>omega)|assumption|omega))|fail)
  rfl
 |succ m ih=>
  intro i hi
  have ls:AQ .lss (.int .i64 (i:Int)) (.int .i64 (k:Int))=some (.bool true):=by rw[b_lss,decide_eq_true (by omega)]
  have ln:U7 (vU .sh D)=some (.int .i64 (D.length:Int)):=by show some _=_;rw[List.length_map]
  have cn:UB .u32 (.int .i64 (n:Int))=some (.int .u32 (n:Int)):=by rw[UB,wrap_u32 (by omega) (by omega)]
  have rm:∀d:Nat,AQ .rem (.int .u32 (d:Int)) (.int .u32 (n:Int))=some (.int .u32 ((d%n:Nat):Int)):=fun d=>ABf (by omega) _
  have ci:∀d:Nat,UB .i64 (.int .u32 ((d%n:Nat):Int))=some (.int .i64 ((d%n:Nat):Int)):=fun d=>by
   have:=Nat.mod_lt d h1
   exact cvI_i64 (by omega) (by omega)
  have eq:∀d:Nat,AQ .eql (.int .i64 ((d%n:Nat):Int)) (.int .i64 (at_:Int))=some (.bool (decide (d%n=at_))):=fun d=>by
   rw[b_eql]
   congr 2
   exact decide_eq_decide.2 (by omega)
  have ad:AQ .add (.int .i64 (i:Int)) (.int .i64 1)=some (.int .i64 ((i+1:Nat):Int)):=by rw[EG,wrap_i64 (by omega) (by omega)];rfl
  have ih':=ih (i+1) (by omega)
  rw[Nl]
  by_cases h:i<D.length
  ·have l2:AQ .lss (.int .i64 (i:Int)) (.int .i64 ((D.map fun(d:Nat)=>V.int .u32 (d:Int)).length:Int))=some (.bool true):=by rw[b_lss,List.length_map,decide_eq_true (by omega)]
   have ix:(vU .sh D)=(vU .sh D):=rfl
   have ix:RX 58 (vU .sh D) (.int .i64 (i:Int))=some (.rop 58 (.int .u32 (D[i]:Int))):=by
    rw[vU,Jk,List.getElem?_map,List.getElem?_eq_getElem h];rfl
   have ld:∀(h:List V) (x:V),BK h 58 (.rop 58 x)=some x:=fun h x=>by simp only[BK,if_true]
   have dg:U8 n D at_ i=decide (D[i]%n=at_):=by rw[U8,Sj h]
   rw[dg]
   unfold vU at*
   generalize D[i]=d at*
   cases hq:decide (d%n=at_)with
   |true=>
    have eq':=eq d
    rw[hq]at eq'
    rw[ET]
    clear ih ih' hD dg eq
    generalize (D.map fun(d:Nat)=>V.int .u32 (d:Int))=L at*
    (repeat' with_reducible first|refine(BD _ _).trans ?_|refine(BI _ _).trans ?_|refine(AO _ _).trans ?_|((first|(refine' (AA ?_ _).trans ?_;rotate_left)|refine(if_pos ?_).trans ?_|refine(Af ?_ _ _).trans ?_);focus (first|rfl|(simp(disch:=first|assumption|omega|with_reducible rfl|(simp only[go_sem]<;>omega)|fail) only[↓reduceIte,↓AO,Nat.reduceAdd,go_sem,Bool.not_true,Bool.not_false,ls,l3,l2,ix,ld,l0,cn,rm,ci,eq']<;>first|rfl|omega)|assumption|omega))|(refine(Aa ?_ _ _).trans ?_;focus (first|(simp(disch:=first|assumption|omega|with_reducible rfl|(simp only[go_sem]<;>omega)|fail) only[↓reduceIte,↓AO,Nat.reduceAdd,go_sem,Bool.not_true,Bool.not_false,ls,l3,l2,ix,ld,l0,cn,rm,ci,eq']<;>omega)|assumption|omega))|fail)
    rfl
   |false=>
    have eq':=eq d
    rw[hq]at eq'
    rw[Bool.false_or,←ih',ET]
    clear ih ih' hD dg eq
    generalize (D.map fun(d:Nat)=>V.int .u32 (d:Int))=L at*
    generalize (i+1:Nat)=i2 at*
    (repeat' with_reducible first|refine(BD _ _).trans ?_|refine(BI _ _).trans ?_|refine(AO _ _).trans ?_|((first|(refine' (AA ?_ _).trans ?_;rotate_left)|refine(if_pos ?_).trans ?_|refine(Af ?_ _ _).trans ?_);focus (first|rfl|(simp(disch:=first|assumption|omega|with_reducible rfl|(simp only[go_sem]<;>omega)|fail) only[↓reduceIte,↓AO,Nat.reduceAdd,go_sem,Bool.not_true,Bool.not_false,ls,l3,l2,ix,ld,l0,cn,rm,ci,eq',ad]<;>first|rfl|omega)|assumption|omega))|(refine(Aa ?_ _ _).trans ?_;focus (first|(simp(disch:=first|assumption|omega|with_reducible rfl|(simp only[go_sem]<;>omega)|fail) only[↓reduceIte,↓AO,Nat.reduceAdd,go_sem,Bool.not_true,Bool.not_false,ls,l3,l2,ix,ld,l0,cn,rm,ci,eq',ad]<;>omega)|assumption|omega))|fail)
    rfl
  ·have l2:AQ .lss (.int .i64 (i:Int)) (.int .i64 ((D.map fun(d:Nat)=>V.int .u32 (d:Int)).length:Int))=some (.bool false):=by rw[b_lss,List.length_map,decide_eq_false (by omega)]
   have dg:U8 n D at_ i=decide (0%n=at_):=by rw[U8,Sm (by omega)]
   rw[dg]
   unfold vU at*
   have z0:(V.int .u32 0)= .int .u32 ((0:Nat):Int):=rfl
   have rm0:=rm 0
   have ci0:=ci 0
   have eq0:=eq 0
   rw[show((0:Nat):Int)=0 from rfl]at rm0
   cases hq:decide (0%n=at_)with
   |true=>
    rw[hq]at eq0
    rw[ET]
    clear ih ih' hD dg eq rm ci
    generalize (D.map fun(d:Nat)=>V.int .u32 (d:Int))=L at*
    generalize (0%n:Nat)=z at*
    (repeat' with_reducible first|refine(BD _ _).trans ?_|refine(BI _ _).trans ?_|refine(AO _ _).trans ?_|((first|(refine' (AA ?_ _).trans ?_;rotate_left)|refine(if_pos ?_).trans ?_|refine(Af ?_ _ _).trans ?_);focus (first|rfl|(simp(disch:=first|assumption|omega|with_reducible rfl|(simp only[go_sem]<;>omega)|fail) only[↓reduceIte,↓AO,Nat.reduceAdd,go_sem,Bool.not_true,Bool.not_false,ls,l3,l2,l0,cn,rm0,ci0,eq0]<;>first|rfl|omega)|assumption|omega))|(refine(Aa ?_ _ _).trans ?_;focus (first|(simp(disch:=first|assumption|omega|with_reducible rfl|(simp only[go_sem]<;>omega)|fail) only[↓reduceIte,↓AO,Nat.reduceAdd,go_sem,Bool.not_true,Bool.not_false,ls,l3,l2,l0,cn,rm0,ci0,eq0]<;>omega)|assumption|omega))|fail)
    rfl
   |false=>
    rw[hq]at eq0
    rw[Bool.false_or,←ih',ET]
    clear ih ih' hD dg eq rm ci
    generalize (D.map fun(d:Nat)=>V.int .u32 (d:Int))=L at*
    generalize (0%n:Nat)=z at*
    generalize (i+1:Nat)=i2 at*
    (repeat' with_reducible first|refine(BD _ _).trans ?_|refine(BI _ _).trans ?_|refine(AO _ _).trans ?_|((first|(refine' (AA ?_ _).trans ?_;rotate_left)|refine(if_pos ?_).trans ?_|refine(Af ?_ _ _).trans ?_);focus (first|rfl|(simp(disch:=first|assumption|omega|with_reducible rfl|(simp only[go_sem]<;>omega)|fail) only[↓reduceIte,↓AO,Nat.reduceAdd,go_sem,Bool.not_true,Bool.not_false,ls,l3,l2,l0,cn,rm0,ci0,eq0,ad]<;>first|rfl|omega)|assumption|omega))|(refine(Aa ?_ _ _).trans ?_;focus (first|(simp(disch:=first|assumption|omega|with_reducible rfl|(simp only[go_sem]<;>omega)|fail) only[↓reduceIte,↓AO,Nat.reduceAdd,go_sem,Bool.not_true,Bool.not_false,ls,l3,l2,l0,cn,rm0,ci0,eq0,ad]<;>omega)|assumption|omega))|fail)
    rfl
theorem Vr (h1:1≤n) (hn:n≤64) (hD:∀d∈D,d<4294967296) (hl:D.length≤1000000) {k:Int} (hk:k<1000000) {at_:Nat} (ha:at_<64):
 Cl 16 [.int .i64 (at_:Int),.ref 1 [] 3,.ref 0 [] 3,.ref 2 [] 22] [.int .i64 (n:Int),.int .i64 k,vU .sh D]=some (.bool (DY n k D at_),[.int .i64 (n:Int),.int .i64 k,vU .sh D]):=by
 have l1:∀x:V,BK [.int .i64 (n:Int),.int .i64 k,x] 3 (.ref 1 [] 3)=some (.int .i64 k):=fun x=>rfl
 have l0:∀x:V,BK [.int .i64 (n:Int),.int .i64 k,x] 3 (.ref 0 [] 3)=some (.int .i64 (n:Int)):=fun x=>rfl
 by_cases c1:k<0
 ·have a1:AQ .lss (.int .i64 k) (.int .i64 0)=some (.bool true):=by rw[b_lss,decide_eq_true c1]
  rw[DY,decide_eq_true (.inl c1),Bool.true_or,Qb]
  generalize vU .sh D=L at*
  (repeat' with_reducible first|refine(BD _ _).trans ?_|refine(BI _ _).trans ?_|refine(AO _ _).trans ?_|((first|(refine' (AA ?_ _).trans ?_;rotate_left)|refine(if_pos ?_).trans ?_|refine(Af ?_ _ _).trans ?_);focus (first|rfl|(simp(disch:=first|assumption|omega|with_reducible rfl|(simp only[go_sem]<;>omega)|fail) only[↓reduceIte,↓AO,Nat.reduceAdd,go_sem,Bool.not_true,Bool.not_false,l1,a1]<;>first|rfl|omega)|assumption|omega))|(refine(Aa ?_ _ _).trans ?_;focus (first|(simp(disch:=first|assumption|omega|with_reducible rfl|(simp only[go_sem]<;>omega)|fail) only[↓reduceIte,↓AO,Nat.reduceAdd,go_sem,Bool.not_true,Bool.not_false,l1,a1]<;>omega)|assumption|omega))|fail)
  rfl
 have a1:AQ .lss (.int .i64 k) (.int .i64 0)=some (.bool false):=by rw[b_lss,decide_eq_false c1]
 by_cases c2:(n:Int)≤k
 ·have a2:AQ .geq (.int .i64 k) (.int .i64 (n:Int))=some (.bool true):=by rw[b_geq,decide_eq_true c2]
  rw[DY,decide_eq_true (.inr c2),Bool.true_or,Qb]
  generalize vU .sh D=L at*
  (repeat' with_reducible first|refine(BD _ _).trans ?_|refine(BI _ _).trans ?_|refine(AO _ _).trans ?_|((first|(refine' (AA ?_ _).trans ?_;rotate_left)|refine(if_pos ?_).trans ?_|refine(Af ?_ _ _).trans ?_);focus (first|rfl|(simp(disch:=first|assumption|omega|with_reducible rfl|(simp only[go_sem]<;>omega)|fail) only[↓reduceIte,↓AO,Nat.reduceAdd,go_sem,Bool.not_true,Bool.not_false,l1,a1,l0,a2]<;>first|rfl|omega)|assumption|omega))|(refine(Aa ?_ _ _).trans ?_;focus (first|(simp(disch:=first|assumption|omega|with_reducible rfl|(simp only[go_sem]<;>omega)|fail) only[↓reduceIte,↓AO,Nat.reduceAdd,go_sem,Bool.not_true,Bool.not_false,l1,a1,l0,a2]<;>omega)|assumption|omega))|fail)
  rfl
 have a2:AQ .geq (.int .i64 k) (.int .i64 (n:Int))=some (.bool false):=by rw[b_geq,decide_eq_false c2]
 obtain⟨q,rfl⟩:=Int.eq_ofNat_of_zero_le (show 0≤k by omega)
 have lp:=Vq (D:=D) h1 hn hD hl (k:=q) (by omega) ha q 0 (by omega)
 rw[DY,decide_eq_false (by omega),Bool.false_or,Int.toNat_natCast,←lp,Qb]
 clear lp
 generalize vU .sh D=L at*
 (repeat' with_reducible first|refine(BD _ _).trans ?_|refine(BI _ _).trans ?_|refine(AO _ _).trans ?_|((first|(refine' (AA ?_ _).trans ?_;rotate_left)|refine(if_pos ?_).trans ?_|refine(Af ?_ _ _).trans ?_);focus (first|rfl|(simp(disch:=first|assumption|omega|with_reducible rfl|(simp only[go_sem]<;>omega)|fail) only[↓reduceIte,↓AO,Nat.reduceAdd,go_sem,Bool.not_true,Bool.not_false,l1,a1,l0,a2]<;>first|rfl|omega)|assumption|omega))|(refine(Aa ?_ _ _).trans ?_;focus (first|(simp(disch:=first|assumption|omega|with_reducible rfl|(simp only[go_sem]<;>omega)|fail) only[↓reduceIte,↓AO,Nat.reduceAdd,go_sem,Bool.not_true,Bool.not_false,l1,a1,l0,a2]<;>omega)|assumption|omega))|fail)
 rfl
theorem UG (h1:1≤n) (hn:n≤64) (hD:∀d∈D,d<4294967296) (hl:D.length≤1000000) {k:Int} (hk:k<1000000):∀(m i:Nat) (acc:List Nat) (f:Fl),i+m=n→acc.length≤i→(f= .own∨f= .nil∧acc=[])→
 ∃f':Fl,(f'= .own∨f'= .nil)∧OX (.clo 16 [.ref 1 [] 3,.ref 0 [] 3,.ref 2 [] 22]) (.lst 3 f (acc.map fun(a:Nat)=> .int .i64 (a:Int))) (.int .i64 (n:Int)) (.int .i64 (i:Int)) [.int .i64 (n:Int),.int .i64 k,vU .sh D]=
  Be 0 [.int .i64 (n:Int),.int .i64 k,vU .sh D] (.lst 3 f' ((acc++((List.range n).drop i).filter (DY n k D)).map fun(a:Nat)=> .int .i64 (a:Int))):=by
 intro m
 induction m with
 |zero=>
  intro i acc f hi hacc hf
  have ls:AQ .lss (.int .i64 (i:Int)) (.int .i64 (n:Int))=some (.bool false):=by rw[b_lss,decide_eq_false (by omega)]
  refine⟨f,by rcases hf with rfl|⟨rfl,_⟩<;>simp,?_⟩
  rw[List.drop_eq_nil_of_le (by simp;omega),List.filter_nil,List.append_nil,Jm]
  generalize (acc.map fun(a:Nat)=>V.int .i64 (a:Int))=A at*
  generalize vU .sh D=L at*
  (repeat' with_reducible first|refine(BD _ _).trans ?_|refine(BI _ _).trans ?_|refine(AO _ _).trans ?_|((first|(refine' (AA ?_ _).trans ?_;rotate_left)|refine(if_pos ?_).trans ?_|refine(Af ?_ _ _).trans ?_);focus (first|rfl|(simp(disch:=first|assumption|omega|with_reducible rfl|(simp only[go_sem]<;>omega)|fail) only[↓reduceIte,↓AO,Nat.reduceAdd,go_sem,Bool.not_true,Bool.not_false,ls]<;>first|rfl|omega)|assumption|omega))|(refine(Aa ?_ _ _).trans ?_;focus (first|(simp(disch:=first|assumption|omega|with_reducible rfl|(simp only[go_sem]<;>omega)|fail) only[↓reduceIte,↓AO,Nat.reduceAdd,go_sem,Bool.not_true,Bool.not_false,ls]<;>omega)|assumption|omega))|fail)
  rfl
 |succ m ih=>
  intro i acc f hi hacc hf
  have ls:AQ .lss (.int .i64 (i:Int)) (.int .i64 (n:Int))=some (.bool true):=by rw[b_lss,decide_eq_true (by omega)]
  have asq:=Vr (k:=k) h1 hn hD hl hk (at_:=i) (by omega)
  have cv:∀K:V→List V→Rv,CX P ER W (.clo 16 [.ref 1 [] 3,.ref 0 [] 3,.ref 2 [] 22]) [.int .i64 (i:Int)] [.int .i64 (n:Int),.int .i64 k,vU .sh D] K=K (.bool (DY n k D i)) [.int .i64 (n:Int),.int .i64 k,vU .sh D]:=fun K=>
   (Ve K (by kernel_rfl) (by kernel_rfl)).trans (AA asq _)
  have ad:AQ .add (.int .i64 (i:Int)) (.int .i64 1)=some (.int .i64 ((i+1:Nat):Int)):=by rw[EG,wrap_i64 (by omega) (by omega)];rfl
  have dr:(List.range n).drop i=i::(List.range n).drop (i+1):=by
   rw[List.drop_eq_getElem_cons (by simp;omega)];simp
  rw[dr]
  cases hq:DY n k D i with
  |true=>
   rw[hq]at cv
   obtain⟨f',hf',ih'⟩:=ih (i+1) (acc++[i]) .own (by omega) (by simp;omega) (.inl rfl)
   refine⟨f',hf',?_⟩
   have ap:∀h:List V,RY 3 (tyI .i64) false h (.lst 3 f (acc.map fun(a:Nat)=> .int .i64 (a:Int))) (.lst 3 .own [.int .i64 (i:Int)])=some (.lst 3 .own ((acc++[i]).map fun(a:Nat)=> .int .i64 (a:Int))):=fun h=>by
    have cl:AL [V.int .i64 (i:Int)]=true:=rfl
    have ty:[V.int .i64 (i:Int)].all (tyI .i64)=true:=rfl
    rw[List.map_append]
    rcases hf with rfl|⟨rfl,rfl⟩
    ·rw[JJ cl ty (by simp;omega)];rfl
    ·rw[List.map_nil,VS cl ty (by simp)];rfl
   rw[List.filter_cons_of_pos hq,show acc++i::((List.range n).drop (i+1)).filter (DY n k D)=acc++[i]++((List.range n).drop (i+1)).filter (DY n k D)by simp,←ih',Jm]
   clear ih ih' hD asq
   generalize ((acc++[i]).map fun(a:Nat)=>V.int .i64 (a:Int))=A2 at*
   generalize (acc.map fun(a:Nat)=>V.int .i64 (a:Int))=A at*
   generalize vU .sh D=L at*
   generalize (i+1:Nat)=i2 at*
   refine(AA ls _).trans ?_
   refine(BD _ _).trans ?_
   refine(cv _).trans ?_
   (repeat' with_reducible first|refine(BD _ _).trans ?_|refine(BI _ _).trans ?_|refine(AO _ _).trans ?_|((first|(refine' (AA ?_ _).trans ?_;rotate_left)|refine(if_pos ?_).trans ?_|refine(Af ?_ _ _).trans ?_);focus (first|rfl|(simp(disch:=first|assumption|omega|with_reducible rfl|(simp only[go_sem]<;>omega)|fail) only[↓reduceIte,↓AO,Nat.reduceAdd,go_sem,Bool.not_true,Bool.not_false,ap,ad]<;>first|rfl|omega)|assumption|omega))|(refine(Aa ?_ _ _).trans ?_;focus (first|(simp(disch:=first|assumption|omega|with_reducible rfl|(simp only[go_sem]<;>omega)|fail) only[↓reduceIte,↓AO,Nat.reduceAdd,go_sem,Bool.not_true,Bool.not_false,ap,ad]<;>omega)|assumption|omega))|fail)
   rfl
  |false=>
   rw[hq]at cv
   obtain⟨f',hf',ih'⟩:=ih (i+1) acc f (by omega) (by omega) hf
   refine⟨f',hf',?_⟩
   rw[List.filter_cons_of_neg (by simp[hq]),←ih',Jm]
   clear ih ih' hD asq
   generalize (acc.map fun(a:Nat)=>V.int .i64 (a:Int))=A at*
   generalize vU .sh D=L at*
   generalize (i+1:Nat)=i2 at*
   refine(AA ls _).trans ?_
   refine(BD _ _).trans ?_
   refine(cv _).trans ?_
   (repeat' with_reducible first|refine(BD _ _).trans ?_|refine(BI _ _).trans ?_|refine(AO _ _).trans ?_|((first|(refine' (AA ?_ _).trans ?_;rotate_left)|refine(if_pos ?_).trans ?_|refine(Af ?_ _ _).trans ?_);focus (first|rfl|(simp(disch:=first|assumption|omega|with_reducible rfl|(simp only[go_sem]<;>omega)|fail) only[↓reduceIte,↓AO,Nat.reduceAdd,go_sem,Bool.not_true,Bool.not_false,ad]<;>first|rfl|omega)|assumption|omega))|(refine(Aa ?_ _ _).trans ?_;focus (first|(simp(disch:=first|assumption|omega|with_reducible rfl|(simp only[go_sem]<;>omega)|fail) only[↓reduceIte,↓AO,Nat.reduceAdd,go_sem,Bool.not_true,Bool.not_false,ad]<;>omega)|assumption|omega))|fail)
   rfl
end
abbrev Eo (l:List Nat):V:= .lst 3 .sh (l.map fun(a:Nat)=> .int .i64 (a:Int))
theorem YM (l:List Nat):LZ (l.map fun(a:Nat)=>V.int .i64 (a:Int))=true:=RZ (fun _=>rfl) l
theorem UH {n k:Int} {D:List Nat} (hD:∀d∈D,d<4294967296) (hl:D.length≤1000000) (hk:k<1000000):
 Cl 7 [.int .i64 n,.int .i64 k,vU .sh D] []=some (Eo (GH n k D),[]):=by
 have wk:(vU .sh D).weak=vU .sh D:=rfl
 have t0:∀m:Nat,((AM.tyI .i64) (.int .i64 n)&&V.under m (.int .i64 n))=true:=fun _=>rfl
 have t1:∀m:Nat,((AM.tyI .i64) (.int .i64 k)&&V.under m (.int .i64 k))=true:=fun _=>rfl
 have t2:((AM.tyL 58) (vU .sh D)&&V.under 2 (vU .sh D))=true:=rfl
 have l0:∀x:V,BK [.int .i64 n,.int .i64 k,x] 3 (.ref 0 [] 3)=some (.int .i64 n):=fun x=>rfl
 by_cases c1:n<1
 ·have a1:AQ .lss (.int .i64 n) (.int .i64 1)=some (.bool true):=by rw[b_lss,decide_eq_true c1]
  rw[GH,if_neg (by omega),VW,wk]
  generalize vU .sh D=L at*
  rw[if_pos (t0 0),if_pos (t1 1),if_pos t2]
  (repeat' with_reducible first|refine(BD _ _).trans ?_|refine(BI _ _).trans ?_|refine(AO _ _).trans ?_|((first|(refine' (AA ?_ _).trans ?_;rotate_left)|refine(if_pos ?_).trans ?_|refine(Af ?_ _ _).trans ?_);focus (first|rfl|(simp(disch:=first|assumption|omega|with_reducible rfl|(simp only[go_sem]<;>omega)|fail) only[↓reduceIte,↓AO,Nat.reduceAdd,go_sem,Bool.not_true,Bool.not_false,l0,a1]<;>first|rfl|omega)|assumption|omega))|(refine(Aa ?_ _ _).trans ?_;focus (first|(simp(disch:=first|assumption|omega|with_reducible rfl|(simp only[go_sem]<;>omega)|fail) only[↓reduceIte,↓AO,Nat.reduceAdd,go_sem,Bool.not_true,Bool.not_false,l0,a1]<;>omega)|assumption|omega))|fail)
  rfl
 have a1:AQ .lss (.int .i64 n) (.int .i64 1)=some (.bool false):=by rw[b_lss,decide_eq_false c1]
 by_cases c2:64<n
 ·have a2:AQ .gtr (.int .i64 n) (.int .i64 64)=some (.bool true):=by rw[b_gtr,decide_eq_true c2]
  rw[GH,if_neg (by omega),VW,wk]
  generalize vU .sh D=L at*
  rw[if_pos (t0 0),if_pos (t1 1),if_pos t2]
  (repeat' with_reducible first|refine(BD _ _).trans ?_|refine(BI _ _).trans ?_|refine(AO _ _).trans ?_|((first|(refine' (AA ?_ _).trans ?_;rotate_left)|refine(if_pos ?_).trans ?_|refine(Af ?_ _ _).trans ?_);focus (first|rfl|(simp(disch:=first|assumption|omega|with_reducible rfl|(simp only[go_sem]<;>omega)|fail) only[↓reduceIte,↓AO,Nat.reduceAdd,go_sem,Bool.not_true,Bool.not_false,l0,a1,a2]<;>first|rfl|omega)|assumption|omega))|(refine(Aa ?_ _ _).trans ?_;focus (first|(simp(disch:=first|assumption|omega|with_reducible rfl|(simp only[go_sem]<;>omega)|fail) only[↓reduceIte,↓AO,Nat.reduceAdd,go_sem,Bool.not_true,Bool.not_false,l0,a1,a2]<;>omega)|assumption|omega))|fail)
  rfl
 have a2:AQ .gtr (.int .i64 n) (.int .i64 64)=some (.bool false):=by rw[b_gtr,decide_eq_false c2]
 rw[GH,if_pos (by omega)]
 obtain⟨q,rfl⟩:=Int.eq_ofNat_of_zero_le (show 0≤n by omega)
 obtain⟨f',hf',lp⟩:=UG (n:=q) (D:=D) (k:=k) (by omega) (by omega) hD hl hk q 0 [] .nil (by omega) (Nat.le_refl 0) (.inr ⟨rfl,rfl⟩)
 rw[List.drop_zero,List.nil_append,List.map_nil]at lp
 have pl:=YM ((List.range q).filter (DY q k D))
 have fn:Be 0 [.int .i64 (q:Int),.int .i64 k,vU .sh D] (.lst 3 f' (((List.range q).filter (DY q k D)).map fun(a:Nat)=>V.int .i64 (a:Int)))=some (Eo ((List.range q).filter (DY q k D)),[]):=by
  rcases hf' with rfl|rfl<;>rfl
 rw[Int.toNat_natCast,←fn,←lp,VW,wk]
 clear lp fn
 generalize vU .sh D=L at*
 rw[if_pos (t0 0),if_pos (t1 1),if_pos t2]
 (repeat' with_reducible first|refine(BD _ _).trans ?_|refine(BI _ _).trans ?_|refine(AO _ _).trans ?_|((first|(refine' (AA ?_ _).trans ?_;rotate_left)|refine(if_pos ?_).trans ?_|refine(Af ?_ _ _).trans ?_);focus (first|rfl|(simp(disch:=first|assumption|omega|with_reducible rfl|(simp only[go_sem]<;>omega)|fail) only[↓reduceIte,↓AO,Nat.reduceAdd,go_sem,Bool.not_true,Bool.not_false,l0,a1,a2]<;>first|rfl|omega)|assumption|omega))|(refine(Aa ?_ _ _).trans ?_;focus (first|(simp(disch:=first|assumption|omega|with_reducible rfl|(simp only[go_sem]<;>omega)|fail) only[↓reduceIte,↓AO,Nat.reduceAdd,go_sem,Bool.not_true,Bool.not_false,l0,a1,a2]<;>omega)|assumption|omega))|fail)
 rfl
end
section
open Go AM
section
variable {n:Nat} {D:List Nat}
theorem YN (h1:1≤n) (hn:n≤64) (hD:∀d∈D,d<4294967296) (hl:D.length≤1000000) {fl:Fl} {k:Nat} (hk:k<1000000) {at_:Nat} (ha:at_<64) (acc:List Nat) (hacc:acc.length≤64):∀(m i:Nat),i+m=k→∀b:Bool,
 MC (.int .i64 (n:Int)) (.int .i64 (k:Int)) (vU fl D) (.lst 3 .own (acc.map fun(a:Nat)=> .int .i64 (a:Int))) (.int .i64 (at_:Int)) (.bool b) (.int .i64 (i:Int)) 0=
  Jo (.int .i64 (n:Int)) (.int .i64 (k:Int)) (vU fl D) (.lst 3 .own ((if b||Nl n D at_ m i then acc++[at_]else acc).map fun(a:Nat)=> .int .i64 (a:Int))) (.int .i64 ((at_+1:Nat):Int)):=by
 have ada:AQ .add (.int .i64 (at_:Int)) (.int .i64 1)=some (.int .i64 ((at_+1:Nat):Int)):=by rw[EG,wrap_i64 (by omega) (by omega)];rfl
 have ap:∀h:List V,RY 3 (AM.tyI .i64) false h (.lst 3 .own (acc.map fun(a:Nat)=> .int .i64 (a:Int))) (.lst 3 .own [.int .i64 (at_:Int)])=some (.lst 3 .own ((acc++[at_]).map fun(a:Nat)=> .int .i64 (a:Int))):=fun h=>by
  have cl:AL [V.int .i64 (at_:Int)]=true:=rfl
  have ty:[V.int .i64 (at_:Int)].all (AM.tyI .i64)=true:=rfl
  rw[List.map_append,JJ cl ty (by simp;omega)];rfl
 have nt:un .not (.bool true)=some (.bool false):=rfl
 have nf:un .not (.bool false)=some (.bool true):=rfl
 intro m
 induction m with
 |zero=>
  intro i hi b
  have ls:AQ .lss (.int .i64 (i:Int)) (.int .i64 (k:Int))=some (.bool false):=by rw[b_lss,decide_eq_false (by omega)]
  rw[Nl,Bool.or_false,He]
  cases b
  ·simp only[Bool.false_eq_true,if_false]
   generalize (acc.map fun(a:Nat)=>V.int .i64 (a:Int))=A at*
   generalize vU fl D=L at*
   generalize (at_+1:Nat)=a2 at*
   (repeat' with_reducible first|refine(BD _ _).trans ?_|refine(BI _ _).trans ?_|refine(AO _ _).trans ?_|((first|(refine' (AA ?_ _).trans ?_;rotate_left)|refine(if_pos ?_).trans ?_|refine(Af ?_ _ _).trans ?_);focus (first|rfl|(simp(disch:=first|assumption|omega|with_reducible rfl|(simp only[go_sem]<;>omega)|fail) only[↓reduceIte,↓AO,Nat.reduceAdd,go_sem,Bool.not_true,Bool.not_false,ls,ada]<;>first|rfl|omega)|assumption|omega))|(refine(Aa ?_ _ _).trans ?_;focus (first|(simp(disch:=first|assumption|omega|with_reducible rfl|(simp only[go_sem]<;>omega)|fail) only[↓reduceIte,↓AO,Nat.reduceAdd,go_sem,Bool.not_true,Bool.not_false,ls,ada]<;>omega)|assumption|omega))|fail)
   rfl
  ·simp only[if_true]
   generalize ((acc++[at_]).map fun(a:Nat)=>V.int .i64 (a:Int))=A2 at*
   generalize (acc.map fun(a:Nat)=>V.int .i64 (a:Int))=A at*
   generalize vU fl D=L at*
   generalize (at_+1:Nat)=a2 at*
   (repeat' with_reducible first|refine(BD _ _).trans ?_|refine(BI _ _).trans ?_|refine(AO _ _).trans ?_|((first|(refine' (AA ?_ _).trans ?_;rotate_left)|refine(if_pos ?_).trans ?_|refine(Af ?_ _ _).trans ?_);focus (first|rfl|(simp(disch:=first|assumption|omega|with_reducible rfl|(simp only[go_sem]<;>omega)|fail) only[↓reduceIte,↓AO,Nat.reduceAdd,go_sem,Bool.not_true,Bool.not_false,ls,ap,ada]<;>first|rfl|omega)|assumption|omega))|(refine(Aa ?_ _ _).trans ?_;focus (first|(simp(disch:=first|assumption|omega|with_reducible rfl|(simp only[go_sem]<;>omega)|fail) only[↓reduceIte,↓AO,Nat.reduceAdd,go_sem,Bool.not_true,Bool.not_false,ls,ap,ada]<;>omega)|assumption|omega))|fail)
   rfl
 |succ m ih=>
  intro i hi b
  have ls:AQ .lss (.int .i64 (i:Int)) (.int .i64 (k:Int))=some (.bool true):=by rw[b_lss,decide_eq_true (by omega)]
  cases b with
  |true=>
   rw[Bool.true_or,if_pos rfl,He]
   clear ih hD
   generalize ((acc++[at_]).map fun(a:Nat)=>V.int .i64 (a:Int))=A2 at*
   generalize (acc.map fun(a:Nat)=>V.int .i64 (a:Int))=A at*
   generalize vU fl D=L at*
   generalize (at_+1:Nat)=a2 at*
   (repeat' with_reducible first|refine(BD _ _).trans ?_|refine(BI _ _).trans ?_|refine(AO _ _).trans ?_|((first|(refine' (AA ?_ _).trans ?_;rotate_left)|refine(if_pos ?_).trans ?_|refine(Af ?_ _ _).trans ?_);focus (first|rfl|(simp(disch:=first|assumption|omega|with_reducible rfl|(simp only[go_sem]<;>omega)|fail) only[↓reduceIte,↓AO,Nat.reduceAdd,go_sem,Bool.not_true,Bool.not_false,ls,nt,ap,ada]<;>first|rfl|omega)|assumption|omega))|(refine(Aa ?_ _ _).trans ?_;focus (first|(simp(disch:=first|assumption|omega|with_reducible rfl|(simp only[go_sem]<;>omega)|fail) only[↓reduceIte,↓AO,Nat.reduceAdd,go_sem,Bool.not_true,Bool.not_false,ls,nt,ap,ada]<;>omega)|assumption|omega))|fail)
   rfl
  |false=>
   have adi:AQ .add (.int .i64 (i:Int)) (.int .i64 1)=some (.int .i64 ((i+1:Nat):Int)):=by rw[EG,wrap_i64 (by omega) (by omega)];rfl
   have ih':=ih (i+1) (by omega) (U8 n D at_ i)
   rw[Nl,Bool.false_or,←ih',He]
   clear ih ih' ap ada
   have wk:(vU fl D).weak=vU fl.wk D:=by cases fl<;>rfl
   by_cases h:i<D.length
   ·have l2:AQ .lss (.int .i64 (i:Int)) (.int .i64 ((D.map fun(d:Nat)=>V.int .u32 (d:Int)).length:Int))=some (.bool true):=by rw[b_lss,List.length_map,decide_eq_true (by omega)]
    have ix:RX 58 (vU fl.wk D) (.int .i64 (i:Int))=some (.rop 58 (.int .u32 (D[i]:Int))):=by
     rw[vU,Jk,List.getElem?_map,List.getElem?_eq_getElem h];rfl
    have ld:∀(h:List V) (x:V),BK h 58 (.rop 58 x)=some x:=fun h x=>by simp only[BK,if_true]
    have lnn:U7 (vU fl.wk D)=some (.int .i64 ((D.map fun(d:Nat)=>V.int .u32 (d:Int)).length:Int)):=rfl
    have hd:=hD _ (List.getElem_mem h)
    have cv:UB .i64 (.int .u32 (D[i]:Int))=some (.int .i64 (D[i]:Int)):=cvI_i64 (by omega) (by omega)
    have rm:AQ .rem (.int .i64 (D[i]:Int)) (.int .i64 (n:Int))=some (.int .i64 ((D[i]%n:Nat):Int)):=ABf (by omega) _
    have eq:AQ .eql (.int .i64 ((D[i]%n:Nat):Int)) (.int .i64 (at_:Int))=some (.bool (U8 n D at_ i)):=by
     rw[b_eql,U8,Sj h]
     congr 2
     exact decide_eq_decide.2 (by omega)
    rw[wk]
    generalize U8 n D at_ i=q at*
    generalize (D[i]%n:Nat)=z at*
    generalize D[i]=d at*
    clear hD
    generalize (D.map fun(d:Nat)=>V.int .u32 (d:Int)).length=ll at*
    generalize vU fl.wk D=L at*
    generalize vU fl D=L0 at*
    generalize (acc.map fun(a:Nat)=>V.int .i64 (a:Int))=A at*
    generalize (i+1:Nat)=i2 at*
    (repeat' with_reducible first|refine(BD _ _).trans ?_|refine(BI _ _).trans ?_|refine(AO _ _).trans ?_|((first|(refine' (AA ?_ _).trans ?_;rotate_left)|refine(if_pos ?_).trans ?_|refine(Af ?_ _ _).trans ?_);focus (first|rfl|(simp(disch:=first|assumption|omega|with_reducible rfl|(simp only[go_sem]<;>omega)|fail) only[↓reduceIte,↓AO,Nat.reduceAdd,go_sem,Bool.not_true,Bool.not_false,ls,nf,lnn,l2,ix,ld,cv,rm,eq,adi]<;>first|rfl|omega)|assumption|omega))|(refine(Aa ?_ _ _).trans ?_;focus (first|(simp(disch:=first|assumption|omega|with_reducible rfl|(simp only[go_sem]<;>omega)|fail) only[↓reduceIte,↓AO,Nat.reduceAdd,go_sem,Bool.not_true,Bool.not_false,ls,nf,lnn,l2,ix,ld,cv,rm,eq,adi]<;>omega)|assumption|omega))|fail)
    rfl
   ·have l2:AQ .lss (.int .i64 (i:Int)) (.int .i64 ((D.map fun(d:Nat)=>V.int .u32 (d:Int)).length:Int))=some (.bool false):=by rw[b_lss,List.length_map,decide_eq_false (by omega)]
    have lnn:U7 (vU fl.wk D)=some (.int .i64 ((D.map fun(d:Nat)=>V.int .u32 (d:Int)).length:Int)):=rfl
    have eq:AQ .eql (.int .i64 (at_:Int)) (.int .i64 0)=some (.bool (U8 n D at_ i)):=by
     rw[b_eql,U8,Sm (by omega),Nat.zero_mod]
     congr 2
     exact decide_eq_decide.2 (by omega)
    rw[wk]
    generalize U8 n D at_ i=q at*
    clear hD
    generalize (D.map fun(d:Nat)=>V.int .u32 (d:Int)).length=ll at*
    generalize vU fl.wk D=L at*
    generalize vU fl D=L0 at*
    generalize (acc.map fun(a:Nat)=>V.int .i64 (a:Int))=A at*
    generalize (i+1:Nat)=i2 at*
    (repeat' with_reducible first|refine(BD _ _).trans ?_|refine(BI _ _).trans ?_|refine(AO _ _).trans ?_|((first|(refine' (AA ?_ _).trans ?_;rotate_left)|refine(if_pos ?_).trans ?_|refine(Af ?_ _ _).trans ?_);focus (first|rfl|(simp(disch:=first|assumption|omega|with_reducible rfl|(simp only[go_sem]<;>omega)|fail) only[↓reduceIte,↓AO,Nat.reduceAdd,go_sem,Bool.not_true,Bool.not_false,ls,nf,lnn,l2,eq,adi]<;>first|rfl|omega)|assumption|omega))|(refine(Aa ?_ _ _).trans ?_;focus (first|(simp(disch:=first|assumption|omega|with_reducible rfl|(simp only[go_sem]<;>omega)|fail) only[↓reduceIte,↓AO,Nat.reduceAdd,go_sem,Bool.not_true,Bool.not_false,ls,nf,lnn,l2,eq,adi]<;>omega)|assumption|omega))|fail)
    rfl
theorem PX (h1:1≤n) (hn:n≤64) {fl:Fl} {k:Int} {at_:Nat} (ha:at_<64) (acc:List Nat) (hacc:acc.length≤64):
 MC (.int .i64 (n:Int)) (.int .i64 k) (vU fl D) (.lst 3 .own (acc.map fun(a:Nat)=> .int .i64 (a:Int))) (.int .i64 (at_:Int)) (.bool true) (.int .i64 0) 0=
  Jo (.int .i64 (n:Int)) (.int .i64 k) (vU fl D) (.lst 3 .own ((acc++[at_]).map fun(a:Nat)=> .int .i64 (a:Int))) (.int .i64 ((at_+1:Nat):Int)):=by
 have ada:AQ .add (.int .i64 (at_:Int)) (.int .i64 1)=some (.int .i64 ((at_+1:Nat):Int)):=by rw[EG,wrap_i64 (by omega) (by omega)];rfl
 have ap:∀h:List V,RY 3 (AM.tyI .i64) false h (.lst 3 .own (acc.map fun(a:Nat)=> .int .i64 (a:Int))) (.lst 3 .own [.int .i64 (at_:Int)])=some (.lst 3 .own ((acc++[at_]).map fun(a:Nat)=> .int .i64 (a:Int))):=fun h=>by
  have cl:AL [V.int .i64 (at_:Int)]=true:=rfl
  have ty:[V.int .i64 (at_:Int)].all (AM.tyI .i64)=true:=rfl
  rw[List.map_append,JJ cl ty (by simp;omega)];rfl
 have nt:un .not (.bool true)=some (.bool false):=rfl
 have ls:∃b,AQ .lss (.int .i64 0) (.int .i64 k)=some (.bool b):=⟨_,b_lss _ _ _⟩
 obtain⟨b,ls⟩:=ls
 rw[He]
 generalize ((acc++[at_]).map fun(a:Nat)=>V.int .i64 (a:Int))=A2 at*
 generalize (acc.map fun(a:Nat)=>V.int .i64 (a:Int))=A at*
 generalize vU fl D=L at*
 generalize (at_+1:Nat)=a2 at*
 cases b
 ·(repeat' with_reducible first|refine(BD _ _).trans ?_|refine(BI _ _).trans ?_|refine(AO _ _).trans ?_|((first|(refine' (AA ?_ _).trans ?_;rotate_left)|refine(if_pos ?_).trans ?_|refine(Af ?_ _ _).trans ?_);focus (first|rfl|(simp(disch:=first|assumption|omega|with_reducible rfl|(simp only[go_sem]<;>omega)|fail) only[↓reduceIte,↓AO,Nat.reduceAdd,go_sem,Bool.not_true,Bool.not_false,ls,ap,ada]<;>first|rfl|omega)|assumption|omega))|(refine(Aa ?_ _ _).trans ?_;focus (first|(simp(disch:=first|assumption|omega|with_reducible rfl|(simp only[go_sem]<;>omega)|fail) only[↓reduceIte,↓AO,Nat.reduceAdd,go_sem,Bool.not_true,Bool.not_false,ls,ap,ada]<;>omega)|assumption|omega))|fail)
  rfl
 ·(repeat' with_reducible first|refine(BD _ _).trans ?_|refine(BI _ _).trans ?_|refine(AO _ _).trans ?_|((first|(refine' (AA ?_ _).trans ?_;rotate_left)|refine(if_pos ?_).trans ?_|refine(Af ?_ _ _).trans ?_);focus (first|rfl|(simp(disch:=first|assumption|omega|with_reducible rfl|(simp only[go_sem]<;>omega)|fail) only[↓reduceIte,↓AO,Nat.reduceAdd,go_sem,Bool.not_true,Bool.not_false,ls,nt,ap,ada]<;>first|rfl|omega)|assumption|omega))|(refine(Aa ?_ _ _).trans ?_;focus (first|(simp(disch:=first|assumption|omega|with_reducible rfl|(simp only[go_sem]<;>omega)|fail) only[↓reduceIte,↓AO,Nat.reduceAdd,go_sem,Bool.not_true,Bool.not_false,ls,nt,ap,ada]<;>omega)|assumption|omega))|fail)
  rfl
theorem YO (h1:1≤n) (hn:n≤64) (hD:∀d∈D,d<4294967296) (hl:D.length≤1000000) {fl:Fl} {k:Int} (hk:k<1000000):∀(m i:Nat) (acc:List Nat),i+m=n→acc.length≤i→
 Jo (.int .i64 (n:Int)) (.int .i64 k) (vU fl D) (.lst 3 .own (acc.map fun(a:Nat)=> .int .i64 (a:Int))) (.int .i64 (i:Int))=
  some (Eo (acc++((List.range n).drop i).filter (DY n k D)),[]):=by
 intro m
 induction m with
 |zero=>
  intro i acc hi hacc
  have ls:AQ .lss (.int .i64 (i:Int)) (.int .i64 (n:Int))=some (.bool false):=by rw[b_lss,decide_eq_false (by omega)]
  rw[List.drop_eq_nil_of_le (by simp;omega),List.filter_nil,List.append_nil,Eo,Hf]
  generalize (acc.map fun(a:Nat)=>V.int .i64 (a:Int))=A at*
  generalize vU fl D=L at*
  (repeat' with_reducible first|refine(BD _ _).trans ?_|refine(BI _ _).trans ?_|refine(AO _ _).trans ?_|((first|(refine' (AA ?_ _).trans ?_;rotate_left)|refine(if_pos ?_).trans ?_|refine(Af ?_ _ _).trans ?_);focus (first|rfl|(simp(disch:=first|assumption|omega|with_reducible rfl|(simp only[go_sem]<;>omega)|fail) only[↓reduceIte,↓AO,Nat.reduceAdd,go_sem,Bool.not_true,Bool.not_false,ls]<;>first|rfl|omega)|assumption|omega))|(refine(Aa ?_ _ _).trans ?_;focus (first|(simp(disch:=first|assumption|omega|with_reducible rfl|(simp only[go_sem]<;>omega)|fail) only[↓reduceIte,↓AO,Nat.reduceAdd,go_sem,Bool.not_true,Bool.not_false,ls]<;>omega)|assumption|omega))|fail)
  rfl
 |succ m ih=>
  intro i acc hi hacc
  have ls:AQ .lss (.int .i64 (i:Int)) (.int .i64 (n:Int))=some (.bool true):=by rw[b_lss,decide_eq_true (by omega)]
  have dr:(List.range n).drop i=i::(List.range n).drop (i+1):=by
   rw[List.drop_eq_getElem_cons (by simp;omega)];simp
  have fin:acc++((List.range n).drop i).filter (DY n k D)=(if DY n k D i then acc++[i]else acc)++((List.range n).drop (i+1)).filter (DY n k D):=by
   rw[dr,List.filter_cons]
   split<;>simp
  have hal:(if DY n k D i then acc++[i]else acc).length≤i+1:=by
   split
   ·rw[List.length_append,List.length_singleton];omega
   ·omega
  have ih':=ih (i+1) (if DY n k D i then acc++[i]else acc) (by omega) hal
  rw[fin,←ih']
  clear ih ih' fin dr
  by_cases c1:k<0
  ·have a1:AQ .lss (.int .i64 k) (.int .i64 0)=some (.bool true):=by rw[b_lss,decide_eq_true c1]
   have hq:DY n k D i=true:=by rw[DY,decide_eq_true (.inl c1),Bool.true_or]
   have st:=PX (D:=D) h1 hn (fl:=fl) (k:=k) (at_:=i) (by omega) acc (by omega)
   rw[hq,if_pos rfl,←st,Hf]
   clear st hD
   generalize (acc.map fun(a:Nat)=>V.int .i64 (a:Int))=A at*
   generalize vU fl D=L at*
   (repeat' with_reducible first|refine(BD _ _).trans ?_|refine(BI _ _).trans ?_|refine(AO _ _).trans ?_|((first|(refine' (AA ?_ _).trans ?_;rotate_left)|refine(if_pos ?_).trans ?_|refine(Af ?_ _ _).trans ?_);focus (first|rfl|(simp(disch:=first|assumption|omega|with_reducible rfl|(simp only[go_sem]<;>omega)|fail) only[↓reduceIte,↓AO,Nat.reduceAdd,go_sem,Bool.not_true,Bool.not_false,ls,a1]<;>first|rfl|omega)|assumption|omega))|(refine(Aa ?_ _ _).trans ?_;focus (first|(simp(disch:=first|assumption|omega|with_reducible rfl|(simp only[go_sem]<;>omega)|fail) only[↓reduceIte,↓AO,Nat.reduceAdd,go_sem,Bool.not_true,Bool.not_false,ls,a1]<;>omega)|assumption|omega))|fail)
   rfl
  have a1:AQ .lss (.int .i64 k) (.int .i64 0)=some (.bool false):=by rw[b_lss,decide_eq_false c1]
  by_cases c2:(n:Int)≤k
  ·have a2:AQ .geq (.int .i64 k) (.int .i64 (n:Int))=some (.bool true):=by rw[b_geq,decide_eq_true c2]
   have hq:DY n k D i=true:=by rw[DY,decide_eq_true (.inr c2),Bool.true_or]
   have st:=PX (D:=D) h1 hn (fl:=fl) (k:=k) (at_:=i) (by omega) acc (by omega)
   rw[hq,if_pos rfl,←st,Hf]
   clear st hD
   generalize (acc.map fun(a:Nat)=>V.int .i64 (a:Int))=A at*
   generalize vU fl D=L at*
   (repeat' with_reducible first|refine(BD _ _).trans ?_|refine(BI _ _).trans ?_|refine(AO _ _).trans ?_|((first|(refine' (AA ?_ _).trans ?_;rotate_left)|refine(if_pos ?_).trans ?_|refine(Af ?_ _ _).trans ?_);focus (first|rfl|(simp(disch:=first|assumption|omega|with_reducible rfl|(simp only[go_sem]<;>omega)|fail) only[↓reduceIte,↓AO,Nat.reduceAdd,go_sem,Bool.not_true,Bool.not_false,ls,a1,a2]<;>first|rfl|omega)|assumption|omega))|(refine(Aa ?_ _ _).trans ?_;focus (first|(simp(disch:=first|assumption|omega|with_reducible rfl|(simp only[go_sem]<;>omega)|fail) only[↓reduceIte,↓AO,Nat.reduceAdd,go_sem,Bool.not_true,Bool.not_false,ls,a1,a2]<;>omega)|assumption|omega))|fail)
   rfl
  have a2:AQ .geq (.int .i64 k) (.int .i64 (n:Int))=some (.bool false):=by rw[b_geq,decide_eq_false c2]
  obtain⟨q,rfl⟩:=Int.eq_ofNat_of_zero_le (show 0≤k by omega)
  have st:=YN (D:=D) h1 hn hD hl (fl:=fl) (k:=q) (by omega) (at_:=i) (by omega) acc (by omega) q 0 (by omega) false
  have hq:DY n q D i=Nl n D i q 0:=by rw[DY,decide_eq_false (by omega),Bool.false_or,Int.toNat_natCast]
  rw[Bool.false_or,←hq]at st
  rw[←st,Hf]
  clear st hD
  generalize (acc.map fun(a:Nat)=>V.int .i64 (a:Int))=A at*
  generalize vU fl D=L at*
  (repeat' with_reducible first|refine(BD _ _).trans ?_|refine(BI _ _).trans ?_|refine(AO _ _).trans ?_|((first|(refine' (AA ?_ _).trans ?_;rotate_left)|refine(if_pos ?_).trans ?_|refine(Af ?_ _ _).trans ?_);focus (first|rfl|(simp(disch:=first|assumption|omega|with_reducible rfl|(simp only[go_sem]<;>omega)|fail) only[↓reduceIte,↓AO,Nat.reduceAdd,go_sem,Bool.not_true,Bool.not_false,ls,a1,a2]<;>first|rfl|omega)|assumption|omega))|(refine(Aa ?_ _ _).trans ?_;focus (first|(simp(disch:=first|assumption|omega|with_reducible rfl|(simp only[go_sem]<;>omega)|fail) only[↓reduceIte,↓AO,Nat.reduceAdd,go_sem,Bool.not_true,Bool.not_false,ls,a1,a2]<;>omega)|assumption|omega))|fail)
  rfl
end
theorem Qe {n k:Int} {D:List Nat} (hD:∀d∈D,d<4294967296) (hl:D.length≤1000000) (hk:k<1000000) (fl:Fl):
 Cl 8 [.int .i64 n,.int .i64 k,vU fl D] []=some (Eo (GH n k D),[]):=by
 by_cases c1:n<1
 ·have a1:AQ .lss (.int .i64 n) (.int .i64 1)=some (.bool true):=by rw[b_lss,decide_eq_true c1]
  rw[GH,if_neg (by omega),VX]
  generalize vU fl D=L at*
  (repeat' with_reducible first|refine(BD _ _).trans ?_|refine(BI _ _).trans ?_|refine(AO _ _).trans ?_|((first|(refine' (AA ?_ _).trans ?_;rotate_left)|refine(if_pos ?_).trans ?_|refine(Af ?_ _ _).trans ?_);focus (first|rfl|(simp(disch:=first|assumption|omega|with_reducible rfl|(simp only[go_sem]<;>omega)|fail) only[↓reduceIte,↓AO,Nat.reduceAdd,go_sem,Bool.not_true,Bool.not_false,a1]<;>first|rfl|omega)|assumption|omega))|(refine(Aa ?_ _ _).trans ?_;focus (first|(simp(disch:=first|assumption|omega|with_reducible rfl|(simp only[go_sem]<;>omega)|fail) only[↓reduceIte,↓AO,Nat.reduceAdd,go_sem,Bool.not_true,Bool.not_false,a1]<;>omega)|assumption|omega))|fail)
  rfl
 have a1:AQ .lss (.int .i64 n) (.int .i64 1)=some (.bool false):=by rw[b_lss,decide_eq_false c1]
 by_cases c2:64<n
 ·have a2:AQ .gtr (.int .i64 n) (.int .i64 64)=some (.bool true):=by rw[b_gtr,decide_eq_true c2]
  rw[GH,if_neg (by omega),VX]
  generalize vU fl D=L at*
  (repeat' with_reducible first|refine(BD _ _).trans ?_|refine(BI _ _).trans ?_|refine(AO _ _).trans ?_|((first|(refine' (AA ?_ _).trans ?_;rotate_left)|refine(if_pos ?_).trans ?_|refine(Af ?_ _ _).trans ?_);focus (first|rfl|(simp(disch:=first|assumption|omega|with_reducible rfl|(simp only[go_sem]<;>omega)|fail) only[↓reduceIte,↓AO,Nat.reduceAdd,go_sem,Bool.not_true,Bool.not_false,a1,a2]<;>first|rfl|omega)|assumption|omega))|(refine(Aa ?_ _ _).trans ?_;focus (first|(simp(disch:=first|assumption|omega|with_reducible rfl|(simp only[go_sem]<;>omega)|fail) only[↓reduceIte,↓AO,Nat.reduceAdd,go_sem,Bool.not_true,Bool.not_false,a1,a2]<;>omega)|assumption|omega))|fail)
  rfl
 have a2:AQ .gtr (.int .i64 n) (.int .i64 64)=some (.bool false):=by rw[b_gtr,decide_eq_false c2]
 rw[GH,if_pos (by omega)]
 obtain⟨q,rfl⟩:=Int.eq_ofNat_of_zero_le (show 0≤n by omega)
 have lp:=YO (n:=q) (D:=D) (fl:=fl) (k:=k) (by omega) (by omega) hD hl hk q 0 [] (by omega) (Nat.le_refl 0)
 rw[List.drop_zero,List.nil_append,List.map_nil]at lp
 rw[Int.toNat_natCast,←lp,VX]
 clear lp
 generalize vU fl D=L at*
 (repeat' with_reducible first|refine(BD _ _).trans ?_|refine(BI _ _).trans ?_|refine(AO _ _).trans ?_|((first|(refine' (AA ?_ _).trans ?_;rotate_left)|refine(if_pos ?_).trans ?_|refine(Af ?_ _ _).trans ?_);focus (first|rfl|(simp(disch:=first|assumption|omega|with_reducible rfl|(simp only[go_sem]<;>omega)|fail) only[↓reduceIte,↓AO,Nat.reduceAdd,go_sem,Bool.not_true,Bool.not_false,a1,a2]<;>first|rfl|omega)|assumption|omega))|(refine(Aa ?_ _ _).trans ?_;focus (first|(simp(disch:=first|assumption|omega|with_reducible rfl|(simp only[go_sem]<;>omega)|fail) only[↓reduceIte,↓AO,Nat.reduceAdd,go_sem,Bool.not_true,Bool.not_false,a1,a2]<;>omega)|assumption|omega))|fail)
 rfl
end
section
open Go AM
section
variable {B:Type} {s e u:TypeId} {f:Fl} {xs:List V} {h:List V}
theorem Hl:∃g,V.weak (.lst e f xs)= .lst e g xs:=by cases f<;>exact⟨_,rfl⟩
theorem AAL (hu:P.underlying s=some (.slice u)) (K:V→Option B):(lenV P s (.lst e f xs)).bind K=K (.int .i64 (xs.length:Int)):=by
 simp[lenV,hu]
theorem Vs (hu:P.underlying s=some (.slice u)) (K:V→Option B):(lenV P s (V.weak (.lst e f xs))).bind K=K (.int .i64 (xs.length:Int)):=by
 obtain⟨g,hg⟩:=Hl (e:=e) (f:=f) (xs:=xs);rw[hg];exact AAL hu K
theorem AAM (hk:K P s= .slice e) {i:Nat} {v:V} (hv:xs[i]?=some v) (K:V→Option B):
 (AZ P s (.lst e f xs) (.int .i64 (i:Int))).bind K=K (.rop e v):=by
 have hi:=Vd hv
 have:inside (i:Int) xs.length=true:=by simp[inside,hi]
 simp[AZ,hk,this,hv]
theorem AB0 (hk:K P s= .slice e) {i:Nat} {v:V} (hv:xs[i]?=some v) (K:V→Option B):
 (AZ P s (V.weak (.lst e f xs)) (.int .i64 (i:Int))).bind K=K (.rop e v):=by
 obtain⟨g,hg⟩:=Hl (e:=e) (f:=f) (xs:=xs);rw[hg];exact AAM hk hv K
theorem YP {v:V} (K:V→Option B):(GI h e (.rop e v)).bind K=K v.weak:=by rw[GI,JX];rfl
theorem ADx (hk:K P s= .slice e) (hf:f= .own∨f= .nil) {y:V} {ys:List V} (hy:Ap h y=some ys) (hc:AL ys=true) (ht:Jd P e ys=true) (hl:xs.length+ys.length≤2147483648) (hn:BG P depth e=false) (hne:f= .nil→ys.isEmpty=false:=by first|(intro h;cases h;done)|(intro _;rfl)):
 Eb P s h (.lst e f xs) y=some (.lst e .own (xs++ys)):=by
 rcases hf with rfl|rfl
 ·simp[Eb,hk,hy,hc,ht,hl,DF,CU,hn]
 ·have:=hne rfl
  cases ys with
  |nil=>cases this
  |cons y0 ys0=>simp[Eb,hk,hy,hc,ht,hl,DF,CU,hn]<;>exact decide_eq_true (by simpa using hl)
theorem AB1 (hk:K P s= .slice e) {v:V} (ht:CO P e v=true) (hc:v.clean=true) (hn:BG P depth e=false) (hz:∃z,zero P e=z):
 JG P s 1 [(0,v)]=some (.lst e .own [v]):=by
 simp[JG,hk,Ci,ht,List.replicate,cp,hn,AL,hc,CU]
end
def bL (f:Fl) (l:List UInt8):V:= .lst 5 f (bytesOf l)
theorem Aj (l:List UInt8):(bytesOf l).length=l.length:=by simp[bytesOf]
theorem Iw (a b:List UInt8):bytesOf (a++b)=bytesOf a++bytesOf b:=by simp[bytesOf]
theorem bytesOf_take (n:Nat) (a:List UInt8):(bytesOf a).take n=bytesOf (a.take n):=by simp[bytesOf,List.map_take]
theorem bytesOf_drop (n:Nat) (a:List UInt8):(bytesOf a).drop n=bytesOf (a.drop n):=by simp[bytesOf,List.map_drop]
theorem CB:∀l:List UInt8,AL (bytesOf l)=true
 |[]=>rfl
 |x::l=>by simp only[bytesOf,List.map_cons,AL];rw[show List.map _ l=bytesOf l from rfl,CB l];rfl
theorem Np (x:Int):CO P 5 (.int .u8 x)=true:=by simp[CO,K_5,BO,VZ]
theorem Ez (l:List UInt8):Jd P 5 (bytesOf l)=true:=by
 simp[Jd,bytesOf,Np]
theorem MJ {B:Type} {f:Fl} {l:List UInt8} (K':V→Option B):(lenV P 167 (V.weak (bL f l))).bind K'=K' (.int .i64 (l.length:Int)):=by
 rw[bL,Vs Na,Aj]
theorem AB2 {B:Type} {f:Fl} {l:List UInt8} (K':V→Option B):(lenV P 167 (bL f l)).bind K'=K' (.int .i64 (l.length:Int)):=by
 rw[bL,AAL Na,Aj]
theorem AB3 {f:Fl} {h:List V} {l m:List UInt8} {g:Fl} (hf:f= .own∨f= .nil) (hl:l.length+m.length≤2147483648) (hne:f= .nil→m.isEmpty=false:=by first|(intro h;cases h;done)|(intro _;rfl)):
 Eb P 167 h (bL f l) (bL g m)=some (bL .own (l++m)):=by
 rw[bL,ADx EU hf (y:=bL g m) (ys:=bytesOf m) rfl (CB m) (Ez m) (by simpa [Aj]using hl) Va (fun h=>by have:=hne h;cases m<;>first|(cases this;done)|rfl),bL,Iw]
theorem AB4 (x:Nat) (hx:x<256):JG P 167 1 [(0,.int .u8 (x:Int))]=some (bL .own [UInt8.ofNat x]):=by
 rw[AB1 EU (Np _) rfl Va ⟨_,rfl⟩,bL]
 simp[bytesOf,Nat.mod_eq_of_lt hx]
theorem app1 {B:Type} {f:Fl} {h:List V} {l:List UInt8} (hf:f= .own∨f= .nil) (hl:l.length+1≤2147483648) (x:Nat) (hx:x<256) (K':V→Option B):
 (JG P 167 1 [(0,.int .u8 (x:Int))]).bind (fun y=>(Eb P 167 h (bL f l) y).bind K')=K' (bL .own (l++[UInt8.ofNat x])):=by
 rw[AB4 x hx]
 exact AA (AB3 hf (by simpa using hl) (fun _=>rfl)) K'
end
section
open Go AM
def part (p:Fl×List UInt8):V:=bL p.1 p.2
def parts (L:List (Fl×List UInt8)):List V:=L.map part
def flat (L:List (Fl×List UInt8)):List UInt8:=(L.map (·.2)).flatten
theorem Ec:∀l:List UInt8,Ai (bytesOf l)=bytesOf l
 |[]=>rfl
 |x::l=>by simp only[bytesOf,List.map_cons,Ai];rw[show List.map _ l=bytesOf l from rfl,Ec l];rfl
theorem MK {L:List (Fl×List UInt8)} {i:Nat} (hi:i<L.length):(parts L)[i]?=some (part L[i]):=by
 simp[parts,hi]
theorem Fj (p:Fl×List UInt8):∃g,(part p).weak=bL g p.2:=by
 obtain⟨f,l⟩:=p;exact Hl
theorem Vt {s e:TypeId} {id off len a:Nat} {p:List Nat} (k:K P s= .slice e) (h1:a≤len):
 LP P s (V.weak (.win id p off len e)) (some (.int .i64 (a:Int))) none none=some (.win id p (off+a) (len-a) e):=by
 have e2:(0:Int)≤(a:Int)∧(a:Int)≤(len:Int):=⟨by omega,by omega⟩
 simp[LP,V.weak,k,BJ,e2,h1]
theorem Qg {e:TypeId} {s:TypeId} {off len:Nat} {xs ys:List V} {y:V} (k:K P s= .slice e) (hy:Ap [.row e xs] y=some ys) (hc:AL ys=true) (ht:Jd P e ys=true) (hn:BG P depth e=false) (hl:ys.length≤len):
 Xi P s [.row e xs] (.win 0 [] off len e) y=some (.int .i64 (ys.length:Int),[.row e (xs.take off++ys++xs.drop (off+ys.length))]):=by
 have m:min ys.length len=ys.length:=by omega
 simp[Xi,Df,k,hy,hc,ht,rd,V.at,V.items,wr,V.upd,CU,hn,m]
theorem Gn (p:Fl×List UInt8) (L:List (Fl×List UInt8)):flat (p::L)=p.2++flat L:=rfl
theorem YQ (fs:Fl) (L:List (Fl×List UInt8)) (hL:L.length<2147483648) (f:Fl) (N:Nat) (hN:N<2147483648) (h0:0<N):∀(n i:Nat) (done:List UInt8),i+n=L.length→N=done.length+(flat (L.drop i)).length→
 JQ (.lst 5 fs []) (.win 0 [] 0 N 5) (.int .i64 (done.length:Int)) (.lst 167 f (parts L)) (.int .i64 (L.length:Int)) (.int .i64 (i:Int)) [.row 5 (bytesOf done++List.replicate (N-done.length) .undef)]=
  some (bL .own (done++flat (L.drop i)),[]):=by
 intro n
 induction n with
 |zero=>
  intro i done hi hn
  have hd:L.drop i=[]:=by simp;omega
  rw[hd]at hn⊢
  simp only[flat,List.map_nil,List.flatten_nil,List.length_nil,Nat.add_zero,List.append_nil]at hn⊢
  subst hn
  rw[Jz,Jy,UF (by omega),Di,O3]
  have c:Ap [V.row 5 (bytesOf done)] (.win 0 [] 0 done.length 5)=some (bytesOf done):=by
   simp[Ap,rd,V.at,V.items,Aj]
   rw[List.take_of_length_le (by simp[Aj])]
  simp[LX,c,CB,Ec,bL,Nat.ble,Nat.blt,Nat.ble_eq]
  exact List.ne_nil_of_length_pos h0
 |succ n ih=>
  intro i done hi hn
  have hlt:i<L.length:=by omega
  rw[Jz,Jy,Qd (by omega),EN,Ox]
  refine(AAM PI (MK hlt) _).trans<|(YP _).trans ?_
  obtain⟨g,hg⟩:=Fj L[i]
  rw[hg]
  rw[Oy]
  refine(AA (Vt EU (by omega)) _).trans ?_
  refine(AA (Qg (ys:=[]) EU (by cases fs<;>rfl) rfl rfl Va (Nat.zero_le _)) _).trans ?_
  refine(Ld (b:=0) (by simp;omega) _).trans ?_
  simp only[List.length_nil,Nat.add_zero,Nat.zero_add,List.append_nil,List.take_append_drop]
  rw[Oz]
  have hd:flat (L.drop i)=L[i].2++flat (L.drop (i+1)):=by rw[List.drop_eq_getElem_cons hlt,Gn]
  rw[hd]at hn⊢
  rw[List.length_append]at hn
  refine(AA (Vt EU (by omega)) _).trans ?_
  refine(AA (Qg (ys:=bytesOf L[i].2) EU rfl (CB _) (Ez _) Va (by rw[Aj];omega)) _).trans ?_
  rw[Aj]
  refine(Ld (by omega) _).trans ?_
  rw[O0]
  refine(Ld (b:=1) (by omega) _).trans ?_
  have:=ih (i+1) (done++L[i].2) (by omega) (by simp;omega)
  rw[List.append_assoc,List.length_append]at this
  rw[←this]
  congr 1
  simp[Iw,Aj,List.take_append,List.drop_append,List.take_of_length_le,List.drop_eq_nil_of_le]
  omega
theorem ADy {R:Type} {n:Nat} {h:List V} (hn:n≤2147483648) (k:V→List V→Option R):Xj P 0 149 [.int .i64 (n:Int)] h k=k (.win h.length [] 0 n 5) (h++[.row 5 (List.replicate n .undef)]):=by
 have:(0:Nat)=0∧(0:Int)≤(n:Int)∧(n:Int)≤(DF:Int):=⟨rfl,by omega,by simp only[DF];omega⟩
 unfold Xj
 refine(if_pos this).trans ?_
 have key:∀e:TypeId,e=5→k (.win h.length [] 0 (n:Int).toNat e) (h++[.row e (List.replicate (n:Int).toNat .undef)])=k (.win h.length [] 0 n 5) (h++[.row 5 (List.replicate n .undef)]):=by rintro _ rfl;rfl
 exact key _ (by kernel_rfl)
theorem YR {s e:TypeId} {id off len b:Nat} {p:List Nat} (k:K P s= .slice e) (h1:b≤len):
 LP P s (.win id p off len e) none (some (.int .i64 (b:Int))) (some (.int .i64 (b:Int)))=some (.win id p off b e):=by
 have e2:(0:Int)≤(b:Int)∧(b:Int)≤(len:Int):=⟨by omega,by omega⟩
 simp[LP,V.weak,k,BJ,e2,h1]
theorem YS (fs:Fl) (L:List (Fl×List UInt8)) (hL:L.length<2147483648) (hL0:0<L.length) (f:Fl) (hN:(flat L).length<2147483648) (h0:0<(flat L).length):∀(n i acc:Nat),i+n=L.length→acc+(flat (L.drop i)).length=(flat L).length→
 JP (.lst 167 f (parts L)) (.lst 5 fs []) (.int .i64 (acc:Int)) (V.weak (.lst 167 f (parts L))) (.int .i64 (L.length:Int)) (.int .i64 (i:Int)) []=
  some (bL .own (flat L),[]):=by
 intro n
 induction n with
 |zero=>
  intro i acc hi hn
  have hd:L.drop i=[]:=by simp;omega
  rw[hd]at hn
  have e0:(flat ([]:List (Fl×List UInt8))).length=0:=rfl
  rw[J3,Jw,UF (by omega),Di,Ot]
  have hacc:acc=(flat L).length:=by omega
  subst hacc
  rw[ADy (by omega)]
  refine(AA (YR EU (Nat.le_refl _)) _).trans ?_
  obtain⟨p,L',rfl⟩:=List.exists_cons_of_length_pos hL0
  rw[Ou]
  refine(AB0 (i:=0) (v:=part p) PI rfl _).trans<|(YP _).trans ?_
  obtain⟨g,hg⟩:=Fj p
  rw[hg]
  refine(AA (Qg (ys:=bytesOf p.2) EU rfl (CB _) (Ez _) Va (by rw[Aj,Gn,List.length_append];omega)) _).trans ?_
  rw[Ov]
  have sl:LP P 198 (.lst 167 f (parts (p::L'))) (some (.int .i64 1)) none none=some (.lst 167 f.cut (parts L')):=by
   have e1:(1:Int)≤((parts L').length:Int)+1:=by omega
   simp[LP,PI,BJ,parts,e1]
   constructor
   ·omega
   ·rw[List.take_of_length_le (by simp)]
  refine(AA sl _).trans ?_
  refine(AAL JW _).trans ?_
  have:=YQ fs L' (by simp at hL;omega) f.cut (flat (p::L')).length hN h0 L'.length 0 p.2 (by omega) (by rw[Gn,List.length_append];rfl)
  simp only[List.drop_zero]at this
  rw[←Gn]at this
  refine Eq.trans ?_ this
  simp only[parts,List.length_map,Aj,List.length_nil,List.nil_append,List.take_zero,Nat.zero_add,List.drop_replicate]
  rfl
 |succ n ih=>
  intro i acc hi hn
  have hlt:i<L.length:=by omega
  have hd:flat (L.drop i)=L[i].2++flat (L.drop (i+1)):=by rw[List.drop_eq_getElem_cons hlt,Gn]
  rw[hd,List.length_append]at hn
  rw[J3,Jw,Qd (by omega),EN,Ol]
  refine(AB0 PI (MK hlt) _).trans<|(YP _).trans ?_
  obtain⟨g,hg⟩:=Fj L[i]
  rw[hg,Om]
  refine MJ _ |>.trans ?_
  refine(AA (L8 _ _ _) _).trans ?_
  rw[wrap_i64 (by omega) (by omega)]
  refine(AA (b_gtr _ _ _) _).trans ?_
  rw[decide_eq_false (by omega),Di,Oo]
  refine AB2 _ |>.trans ?_
  refine(Ld (by omega) _).trans ?_
  rw[Oq]
  refine(Ld (b:=1) (by omega) _).trans ?_
  exact ih (i+1) (acc+L[i].2.length) (by omega) (by omega)
theorem YT (fs:Fl) (L:List (Fl×List UInt8)) (hL:L.length<2147483648) (f:Fl) (hN:(flat L).length<2147483648) (h0:0<(flat L).length):
 Cl 140 [.lst 167 f (parts L),.lst 5 fs []] []=some (bL .own (flat L),[]):=by
 have hL0:0<L.length:=by
  cases L with
  |nil=>cases h0
  |cons=>simp
 have lp:(parts L).length=L.length:=by simp[parts]
 rw[X4,Ru,Rw]
 refine(Vs JW _).trans ?_
 rw[lp]
 refine(AA (b_eql _ _ _) _).trans ?_
 rw[decide_eq_false (by omega),Di,Rx]
 refine(Vs JW _).trans ?_
 rw[lp]
 refine(AA (b_eql _ _ _) _).trans ?_
 by_cases h1:L.length=1
 ·rw[decide_eq_true (by omega),EN,Ry]
  match L,h1 with
  |[p],_=>
   refine(AAM (i:=0) (v:=part p) PI rfl _).trans<|(YP _).trans ?_
   obtain⟨g,hg⟩:=Fj p
   have e:flat [p]=p.2:=by simp[flat]
   rw[e]at hN h0⊢
   rw[hg]
   have a:=AB3 (f:= .nil) (h:=[]) (l:=[]) (m:=p.2) (g:=g) (Or.inr rfl) (by simp;omega) (fun _=>by cases hp:p.2 with|nil=>rw[hp]at h0;simp at h0|cons=>rfl)
   refine(AA a _).trans ?_
   refine(AA (show Dt [] (bL .own ([]++p.2))=some (.win 0 [] 0 p.2.length 5,[.row 5 (bytesOf p.2)])by simp[Dt,bL,Aj]) _).trans ?_
   have c:Ap [V.row 5 (bytesOf p.2)] (.win 0 [] 0 p.2.length 5)=some (bytesOf p.2):=by
    simp[Ap,rd,V.at,V.items,Aj]
    rw[List.take_of_length_le (by simp[Aj])]
   simp[LX,c,CB,Ec,bL,Nat.ble,Nat.blt,Nat.ble_eq]
   exact List.ne_nil_of_length_pos h0
 ·rw[decide_eq_false (by omega),Di,Rz,SA]
  refine(Vs Na _).trans ?_
  refine(AA (b_gtr _ _ _) _).trans ?_
  simp only[jn,List.length_nil]
  rw[decide_eq_false (by omega),Di,Oj]
  refine(Vs JW _).trans ?_
  rw[lp]
  exact YS fs L hL hL0 f hN h0 L.length 0 0 (by omega) (by simp)
end
section
open Go AM
def Qh (n:Nat):Nat:=(120-n%64)%64
def lb (n i:Nat):UInt8:=UInt8.ofNat (n/2^(56-8*i)%256)
def KJ (n:Nat):Nat→Nat→List UInt8
 |0,_=>[]
 |k+1,i=>lb n i::KJ n k (i+1)
def Vu (l:List UInt8):List UInt8:=(l++[128])++List.replicate (Qh (l.length+1)) 0++KJ (8*l.length) 8 0
def blocks:Nat→List Nat→List UInt8→List Nat
 |0,h,_=>h
 |n+1,h,p=>blocks n (PU h (p.take 64)) (p.drop 64)
def dg (st:List Nat) (i:Nat):UInt8:=UInt8.ofNat (st.getD (i/4) 0/2^(24-8*(i%4))%256)
def ML (st:List Nat):Nat→Nat→List UInt8→List UInt8
 |0,_,w=>w
 |n+1,i,w=>ML st n (i+1) (w.set i (dg st i))
def E5:List Nat:=(match MB with|V.agg _ l=>l|_=>[]).map fun v=>match v with|V.int _ n=>n.toNat|_=>0
def AB5 (l:List UInt8):List Nat:=blocks ((Vu l).length/64) E5 (Vu l)
def sha (l:List UInt8):List UInt8:=ML (AB5 l) 32 0 (List.replicate 32 0)
def G7 (l:List UInt8):V:= .agg 39 (bytesOf l)
theorem YU:MB=A8 E5:=by kernel_rfl
theorem AB6:E5.length=8:=by kernel_rfl
theorem AB7:B32 E5:=by
 have h:E5.all (fun x=>decide (x<4294967296))=true:=by kernel_rfl
 intro x hx
 have:=List.all_eq_true.1 h x hx
 exact of_decide_eq_true this
theorem PY {h:List Nat} (p:List UInt8) (bh:B32 h) (hh:h.length=8):B32 (PU h p)∧(PU h p).length=8:=Si _ _ _ bh hh
theorem UI (l:List UInt8) (i:Nat) (x:UInt8):(bytesOf l).set i (.int .u8 (x.toNat:Int))=bytesOf (l.set i x):=by
 simp[bytesOf,List.map_set]
theorem AB8 (x:Nat) (hx:x<256):(V.int .u8 (x:Int))= .int .u8 ((UInt8.ofNat x).toNat:Int):=by
 simp[Nat.mod_eq_of_lt hx]
theorem Iy (n:Nat):∀l:List UInt8,AV n (bytesOf l)=true
 |[]=>rfl
 |x::l=>by simp only[bytesOf,List.map_cons,AV];rw[show List.map _ l=bytesOf l from rfl,Iy n l];rfl
theorem KL (n:Nat):∀l:List UInt8,Bv n (bytesOf l)=true
 |[]=>rfl
 |x::l=>by simp only[bytesOf,List.map_cons,Bv];rw[show List.map _ l=bytesOf l from rfl,KL n l];rfl
theorem Iz (h:List V):∀l:List UInt8,Bd h (bytesOf l)=bytesOf l
 |[]=>rfl
 |x::l=>by simp only[bytesOf,List.map_cons,Bd];rw[show List.map _ l=bytesOf l from rfl,Iz h l];rfl
theorem I4 (h:List V):∀l:List UInt8,AP h (bytesOf l)=bytesOf l
 |[]=>rfl
 |x::l=>by simp only[bytesOf,List.map_cons,AP];rw[show List.map _ l=bytesOf l from rfl,I4 h l];rfl
theorem MN (h:List V):∀l:List Nat,AP h (Hg l)=Hg l
 |[]=>rfl
 |x::l=>by simp only[Hg,List.map_cons,AP];rw[show List.map vw l=Hg l from rfl,MN h l];rfl
theorem Vw (h:List V) (l:List Nat):V.reify h (A8 l)=A8 l:=by simp only[A8,V.reify,MN]
theorem PZ (h:List V) (f:Fl) (l:List UInt8):∃g,V.reify h (bL f l)=bL g l:=by
 cases f<;>simp only[bL,V.reify,I4]<;>exact⟨_,rfl⟩
theorem YV (n:Nat) (h:List V) (l:List UInt8):Be n h (G7 l)=some (G7 l,h.take n):=by
 simp only[Be,G7,V.unmut,Iz,V.norm,Ec,V.clean,CB,V.over,KL,Bool.and_self,if_true]
theorem AB9:zero P 40=G7 (List.replicate 32 0):=by rw[ABu];rfl
theorem ACA (l:List UInt8):CO P 40 (G7 l)=true:=by simp[CO,ABt,G7]
theorem ACB (n:Nat) (l:List UInt8):(G7 l).under n=true:=by simp only[G7,V.under];exact Iy _ _
theorem ACC (l:List Nat):CO P 200 (A8 l)=true:=by simp[CO,Iu,A8]
theorem ACD (n:Nat) (l:List Nat):(A8 l).under n=true:=by simp only[A8,V.under];exact Dn _ _
theorem ADz {id i:Nat} (hi:i<32):AZ P 40 (.ref id [] 40) (.int .i64 (i:Int))=some (.ref id [i] 5):=by
 have:inside (i:Int) 32=true:=by simp[inside];omega
 simp[AZ,ABt,this]
theorem AD0 {h:List V} {id i x:Nat} {l:List UInt8} (hh:h[id]?=some (G7 l)) (hi:i<l.length) (hx:x<256):G6 P h 5 (.ref id [i] 5) (.int .u8 (x:Int))=some (h.set id (G7 (l.set i (UInt8.ofNat x)))):=by
 rw[Nc hh (MF hi) (Np _) rfl,AB8 x hx,UI];rfl
theorem AAN {h:List V} {st:List Nat} {w:List UInt8} {i:Nat} (hs:h[1]?=some (A8 st)) (hst:st.length=8) (hw:h[2]?=some (G7 w)) (lw:w.length=32) (hi:i<32) (K:List V→Option (V×List V)):
 Jr (.ref 1 [] 200) (.ref 2 [] 40) (.int .i64 (i:Int)) h K=K (h.set 2 (G7 (w.set i (dg st i)))):=by
 unfold Jr
 refine(AA (VP _ _ _ (by omega)) _).trans ?_
 rw[show(i:Int).tdiv 4=((i/4:Nat):Int)by rfl,wrap_i64 (by omega) (by omega)]
 refine(at8 hs hst (i/4) (by omega) _).trans ?_
 refine(AA (RV _ _ _ (by omega)) _).trans ?_
 rw[show(i:Int).tmod 4=((i%4:Nat):Int)by rfl]
 refine(YG (a:=8) (by omega) _).trans<|(Lc (a:=24) (by omega) (by omega) _).trans ?_
 refine(AA (Du Nb ..) _).trans ?_
 rw[wrap_u64 (by omega) (by omega)]
 refine(AA (JY _ (by omega)) _).trans ?_
 refine(AA (Du VZ ..) _).trans ?_
 rw[Ir]
 refine(AA (ADz hi) _).trans ?_
 exact AA (AD0 hw (by omega) (Nat.mod_lt _ (by decide))) _
theorem ACE {st:List Nat} (hst:st.length=8) (z:List UInt8):∀(n i:Nat) (w:List UInt8),i+n=32→w.length=32→
 JO (.ref 0 [] 40) (.ref 1 [] 200) (.ref 2 [] 40) (.int .i64 (i:Int)) [G7 z,A8 st,G7 w]=some (G7 (ML st n i w),[]):=by
 intro n
 induction n with
 |zero=>
  intro i w hi hw
  rw[Js,Jq,UF (by omega),Di,Oi]
  refine(AA (Dj (v:=G7 w) (Gm rfl)) _).trans ?_
  refine(AA (Fg (w:=G7 z) rfl (ACA _) (ACB _ _)) _).trans ?_
  refine(AA (Dj (v:=G7 w) (Gm rfl)) _).trans ?_
  exact YV _ _ _
 |succ n ih=>
  intro i w hi hw
  rw[Js,Jq,Qd (by omega),EN,Og,AAN rfl hst rfl hw (by omega),Oh]
  refine(Ld (b:=1) (by omega) _).trans ?_
  exact ih (i+1) _ (by omega) (by simp[hw])
theorem ACF:∀(n:Nat) (f:Fl) (p:List UInt8) (st:List Nat),p.length=64*n→p.length<2147483648→B32 st→st.length=8→
 JM (.ref 0 [] 40) (bL f p) (.ref 1 [] 200) [G7 (List.replicate 32 0),A8 st]=some (G7 (ML (blocks n st p) 32 0 (List.replicate 32 0)),[]):=by
 intro n
 induction n with
 |zero=>
  intro f p st hp hlt bs hst
  rw[Jt,Jp]
  refine MJ _ |>.trans ?_
  refine(AA (b_gtr _ _ _) _).trans ?_
  rw[decide_eq_false (by omega),Di,Oc,Oe,AB9]
  exact ACE hst _ 32 0 _ rfl rfl
 |succ n ih=>
  intro f p st hp hlt bs hst
  rw[Jt,Jp]
  refine MJ _ |>.trans ?_
  refine(AA (b_gtr _ _ _) _).trans ?_
  rw[decide_eq_true (by omega),EN,Oa]
  refine(AA (Dj (v:=A8 st) (Gm rfl)) _).trans ?_
  have sl:LP P 167 (V.weak (bL f p)) none (some (.int .i64 64)) none=some (bL f.cut (p.take 64)):=by
   have:=ABz (f:=f) (t:=5) (xs:=bytesOf p) EU (a:=0) (b:=64) (by omega) (by rw[Aj];omega)
   rw[List.drop_zero,bytesOf_take]at this
   rw[bL,bL,←this]
   obtain⟨g,hg⟩:=Hl (e:=5) (f:=f) (xs:=bytesOf p)
   rw[hg]
   have e1:(64:Int)≤p.length:=by omega
   simp[LP,EU,BJ,Aj,e1]
  refine(AA sl _).trans ?_
  obtain⟨g,hg⟩:=PZ [G7 (List.replicate 32 0),A8 st] f.cut (p.take 64)
  have e:AP [G7 (List.replicate 32 0),A8 st] [A8 st,bL f.cut (p.take 64)]=[A8 st,bL g (p.take 64)]:=by
   simp only[AP,Vw,hg]
  rw[e]
  refine(AA (YL hst bs (by rw[List.length_take];omega) g) _).trans ?_
  refine(AA (Fg (w:=A8 st) rfl (ACC _) (ACD _ _)) _).trans ?_
  rw[Ob]
  have sl2:LP P 167 (bL f p) (some (.int .i64 64)) none none=some (bL f.cut (p.drop 64)):=by
   have e1:(64:Int)≤p.length:=by omega
   simp[LP,bL,EU,BJ,Aj,e1,bytesOf_drop]
   rw[List.take_of_length_le (by rw[Aj];omega),bytesOf_drop]
  refine(AA sl2 _).trans ?_
  exact ih f.cut (p.drop 64) (PU st (p.take 64)) (by rw[List.length_drop];omega) (by rw[List.length_drop];omega) (PY _ bs hst).1 (PY _ bs hst).2
theorem ACG (N:Nat) (hN:N<2147483648):∀(n i:Nat) (p:List UInt8),i+n=8→(p.length+n)%64=0→p.length<2147483000→
 JL (.ref 0 [] 40) (bL .own p) (.int .u64 ((8*N:Nat):Int)) (.int .i64 (i:Int)) [G7 (List.replicate 32 0)]=
  some (G7 (ML (blocks ((p++KJ (8*N) n i).length/64) E5 (p++KJ (8*N) n i)) 32 0 (List.replicate 32 0)),[]):=by
 intro n
 induction n with
 |zero=>
  intro i p hi hp hl
  rw[Ju,NU,UF (by omega),Di,OZ,YU]
  refine(AA JX _).trans ?_
  refine(AA (Fg (w:=zero P 200) rfl (ACC _) (ACD _ _)) _).trans ?_
  simp only[KJ,List.append_nil]
  exact ACF (p.length/64) .own p E5 (by omega) (by omega) AB7 AB6
 |succ n ih=>
  intro i p hi hp hl
  rw[Ju,NU,Qd (by omega),EN,Rq,Rt]
  refine(YG (a:=8) (by omega) _).trans<|(Lc (a:=56) (by omega) (by omega) _).trans ?_
  refine(AA (Du Nb ..) _).trans ?_
  rw[wrap_u64 (by omega) (by omega)]
  have hs:AQ .shr (.int .u64 ((8*N:Nat):Int)) (.int .u64 ((56-8*i:Nat):Int))=some (.int .u64 ((8*N/2^(56-8*i):Nat):Int)):=by
   rw[ZP _ _ _ _ (by omega)]
   have:min (((56-8*i:Nat):Int)).toNat (IntKind.u64).bits=56-8*i:=by simp[IntKind.bits];omega
   rw[this,PN]
  refine(AA hs _).trans ?_
  refine(AA (Du VZ ..) _).trans ?_
  rw[Ir]
  refine(app1 (Or.inl rfl) (by omega) _ (Nat.mod_lt _ (by decide)) _).trans ?_
  rw[OY]
  refine(Ld (b:=1) (by omega) _).trans ?_
  have:=ih (i+1) (p++[lb (8*N) i]) (by omega) (by simp;omega) (by simp;omega)
  rw[List.append_assoc,List.singleton_append]at this
  exact this
theorem ACH (N:Nat) (hN:N<2147483648):∀(n:Nat) (p:List UInt8),Qh p.length=n→p.length+n<2147482000→
 JK (.ref 0 [] 40) (bL .own p) (.int .u64 ((8*N:Nat):Int)) [G7 (List.replicate 32 0)]=
  some (G7 (ML (blocks ((p++List.replicate n 0++KJ (8*N) 8 0).length/64) E5 (p++List.replicate n 0++KJ (8*N) 8 0)) 32 0 (List.replicate 32 0)),[]):=by
 intro n
 induction n with
 |zero=>
  intro p hp hl
  rw[Jv,NT]
  refine MJ _ |>.trans ?_
  refine(AA (RV _ _ _ (by omega)) _).trans ?_
  rw[show(p.length:Int).tmod 64=((p.length%64:Nat):Int)by rfl]
  refine(AA (b_neq _ _ _) _).trans ?_
  simp only[Qh]at hp
  rw[decide_eq_false (by omega),Di,Ro,List.replicate_zero,List.append_nil]
  exact ACG N hN 8 0 p rfl (by omega) (by omega)
 |succ n ih=>
  intro p hp hl
  rw[Jv,NT]
  refine MJ _ |>.trans ?_
  refine(AA (RV _ _ _ (by omega)) _).trans ?_
  rw[show(p.length:Int).tmod 64=((p.length%64:Nat):Int)by rfl]
  refine(AA (b_neq _ _ _) _).trans ?_
  simp only[Qh]at hp
  rw[decide_eq_true (by omega),EN,Rn]
  refine(app1 (Or.inl rfl) (by omega) 0 (by omega) _).trans ?_
  have:=ih (p++[0]) (by simp only[Qh,List.length_append,List.length_cons,List.length_nil];omega) (by simp;omega)
  rw[List.append_assoc p [0],List.singleton_append]at this
  exact this
theorem Qi (h:List V) (p:Fl×List UInt8):∃g,V.reify h (part p)=part (g,p.2):=PZ h p.1 p.2
theorem Ho (h:List V):∀L:List (Fl×List UInt8),∃L',AP h (parts L)=parts L'∧flat L'=flat L∧L'.length=L.length
 |[]=>⟨[],rfl,rfl,rfl⟩
 |p::L=>by
  obtain⟨L',e1,e2,e3⟩:=Ho h L
  obtain⟨g,hg⟩:=Qi h p
  refine⟨(g,p.2)::L',?_,?_,by simp[e3]⟩
  ·simp only[parts,List.map_cons,AP,hg];exact congrArg _ e1
  ·rw[Gn,Gn,e2]
theorem Pe (h:List V) (f:Fl) (L:List (Fl×List UInt8)):∃f' L',V.reify h (.lst 167 f (parts L))= .lst 167 f' (parts L')∧flat L'=flat L∧L'.length=L.length:=by
 obtain⟨L',e1,e2,e3⟩:=Ho h L
 cases f
 case lent=>exact⟨.lent,L',by simp only[V.reify,e1],e2,e3⟩
 all_goals exact⟨.sh,L,rfl,rfl,rfl⟩
theorem ACI (L:List (Fl×List UInt8)) (hL:L.length<2147483648) (f:Fl) (hN:(flat L).length<2147480000) (h0:0<(flat L).length):
 Cl 122 [.lst 167 f (parts L)] []=some (G7 (sha (flat L)),[]):=by
 obtain⟨f',L',e1,e2,e3⟩:=Pe [G7 (List.replicate 32 0)] f L
 have er:AP [G7 (List.replicate 32 0)] [.lst 167 f (parts L),.lst 5 .nil []]=[.lst 167 f' (parts L'),.lst 5 .sh []]:=by
  simp only[AP,e1];rfl
 rw[Xy,Ri,Rj,AB9]
 simp only[List.nil_append]
 rw[er]
 refine(AA (YT .sh L' (by omega) f' (by rw[e2];omega) (by rw[e2];exact h0)) _).trans ?_
 rw[e2,Rk]
 refine MJ _ |>.trans ?_
 refine(AA (Du X8 ..) _).trans ?_
 rw[wrap_u64 (by omega) (by omega)]
 refine(AA (VO _ _ _) _).trans ?_
 rw[wrap_u64 (by omega) (by omega),show((flat L).length:Int)*8=((8*(flat L).length:Nat):Int)by omega,Rl]
 refine(app1 (Or.inl rfl) (by omega) 128 (by omega) _).trans ?_
 have z:Qh ((flat L).length+1)<64:=Nat.mod_lt _ (by decide)
 exact ACH (flat L).length (by omega) (Qh ((flat L).length+1)) (flat L++[128]) (by simp) (by simp;omega)
end
section
namespace AM
open Go
mutual
def MO (P:Program) (A:Ann) (Q:FuncId→List V→List V→Option (V×List V)):Nat→FuncId→List V→List V→Option (V×List V)
 |0,_,_,_=>none
 |k+1,f,vs,h=>match Q f vs h with
  |some r=>some r
  |none=>body P A ⟨MO P A Q k,MP P A Q k⟩ f vs h
def MP (P:Program) (A:Ann) (Q:FuncId→List V→List V→Option (V×List V)):Nat→FuncId→Nat→Code→St→Option (Ex×St)
 |0,_,_,_,_=>none
 |k+1,fn,blk,b,st=>round P A ⟨MO P A Q k,MP P A Q k⟩ fn blk b st
end
theorem Orc.le.limO {O O':Orc} (hl:Orc.le O O'):LimO (fun n=>if n=0 then O else O') O':=by
 constructor
 ·intro f vs h
  refine⟨fun n r hr=> ?_,fun r=>⟨fun hr=>⟨1,by simpa using hr⟩,fun⟨n,hn⟩=> ?_⟩⟩
  ·by_cases h0:n=0
   ·subst h0;simpa using hl.1 _ _ _ _ (by simpa using hr)
   ·simpa [h0]using hr
  ·by_cases h0:n=0
   ·subst h0;exact hl.1 _ _ _ _ (by simpa using hn)
   ·simpa [h0]using hn
 ·intro fn blk b st
  refine⟨fun n r hr=> ?_,fun r=>⟨fun hr=>⟨1,by simpa using hr⟩,fun⟨n,hn⟩=> ?_⟩⟩
  ·by_cases h0:n=0
   ·subst h0;simpa using hl.2 _ _ _ _ _ (by simpa using hr)
   ·simpa [h0]using hr
  ·by_cases h0:n=0
   ·subst h0;exact hl.2 _ _ _ _ _ (by simpa using hn)
   ·simpa [h0]using hn
theorem AX {P:Program} {A:Ann} {Q:FuncId→List V→List V→Option (V×List V)} (hQ:∀f vs h r,Q f vs h=some r→Eh P A f vs h=some r) (k:Nat):
 (∀f vs h r,MO P A Q k f vs h=some r→Eh P A f vs h=some r)∧(∀fn blk b st r,MP P A Q k fn blk b st=some r→Lu P A fn blk b st=some r):=by
 induction k with
 |zero=>exact⟨fun _ _ _ _ h=>by simp[MO]at h,fun _ _ _ _ _ h=>by simp[MP]at h⟩
 |succ k ih=>
  have hl:Orc.le ⟨MO P A Q k,MP P A Q k⟩ (Ew P A):=ih
  constructor
  ·intro f vs h r hr
   simp only[MO]at hr
   split at hr
   ·rename_i e;rw[←Option.some.inj hr];exact hQ _ _ _ _ e
   ·rw[OM]
    have:=(Jh (P:=P) (A:=A) hl.limO f vs h).up 0 r (by simpa using hr)
    simpa using this
  ·intro fn blk b st r hr
   simp only[MP]at hr
   rw[OO]
   have:=(IV (P:=P) (A:=A) hl.limO fn blk b st).up 0 r (by simpa using hr)
   simpa using this
end AM
end
section
open Go AM
def Vx:List V→Option (List UInt8)
 |[]=>some []
 | .int .u8 (.ofNat n)::l=>if n<256 then(Vx l).map (UInt8.ofNat n::·)else none
 |_=>none
def Vy:List V→Option (List (Fl×List UInt8))
 |[]=>some []
 | .lst e f xs::l=>if e=5 then(Vx xs).bind fun b=>(Vy l).map ((f,b)::·)else none
 |_=>none
theorem Sr:∀(xs:List V) (l:List UInt8),Vx xs=some l→xs=bytesOf l
 |[],l,h=>by simp[Vx]at h;subst h;rfl
 |x::xs,l,h=>by
  unfold Vx at h
  split at h
  ·rename_i e;exact absurd e (by simp)
  ·rename_i n l' e
   cases e
   split at h
   ·rename_i hn
    obtain⟨l',h1,rfl⟩:=Option.map_eq_some_iff.1 h
    rw[Sr xs l' h1]
    simp[bytesOf,Nat.mod_eq_of_lt hn]
   ·cases h
  ·cases h
theorem Sv:∀(xs:List V) (L:List (Fl×List UInt8)),Vy xs=some L→xs=parts L
 |[],l,h=>by simp[Vy]at h;subst h;rfl
 |x::xs,l,h=>by
  unfold Vy at h
  split at h
  ·rename_i e;exact absurd e (by simp)
  ·rename_i e f ys l' he
   cases he
   split at h
   ·rename_i hn
    subst hn
    obtain⟨b,h1,h2⟩:=Option.bind_eq_some_iff.1 h
    obtain⟨l',h3,rfl⟩:=Option.map_eq_some_iff.1 h2
    rw[Sv xs l' h3,Sr ys b h1]
    simp[parts];rfl
   ·cases h
  ·cases h
def ACJ:List V→List V→Option (V×List V)
 |[.lst e fl xs],[]=>if e=167 then(Vy xs).bind fun L=>if L.length<2147483648∧(flat L).length<2147480000∧0<(flat L).length then some (G7 (sha (flat L)),[])else none else none
 |_,_=>none
def oq (f:FuncId) (vs h:List V):Option (V×List V):=
 bif Nat.beq f 122 then ACJ vs h else none
theorem AD1 {a b:Nat} (h:¬a=b):Nat.beq a b=false:=by
 cases e:Nat.beq a b with
 |false=>rfl
 |true=>exact absurd (Nat.eq_of_beq_eq_true e) h
theorem BF (f:FuncId) (vs h:List V) (r:V×List V) (e:oq f vs h=some r):Cl f vs h=some r:=by
 unfold oq at e
 by_cases h1:f=122
 ·subst h1
  rw[show Nat.beq 122 122=true from rfl,cond_true]at e
  unfold ACJ at e
  split at e
  ·rename_i a fl xs
   split at e
   ·rename_i ha
    subst ha
    obtain⟨L,h2,h3⟩:=Option.bind_eq_some_iff.1 e
    split at h3
    ·rename_i hc
     rw[←Option.some.inj h3,Sv xs L h2]
     exact ACI L hc.1 fl hc.2.1 hc.2.2
    ·cases h3
   ·cases e
  ·cases e
 ·rw[AD1 h1]at e
  cases e
end
section
open Go AM
structure Ent where
 f:FuncId
 vs:List V
 h:List V
 r:V×List V
def Ent.ok (e:Ent):Prop:=Cl e.f e.vs e.h=some e.r
def lkE (T:List Ent) (Q:FuncId→List V→List V→Option (V×List V)) (f:FuncId) (vs h:List V):Option (V×List V):=
 match T.find? fun e=>Nat.beq e.f f&&Ep e.vs vs&&Ep e.h h with
 |some e=>some e.r
 |none=>Q f vs h
theorem Aq {T:List Ent} {Q:FuncId→List V→List V→Option (V×List V)} (hT:∀e∈T,e.ok) (hQ:∀f vs h r,Q f vs h=some r→Cl f vs h=some r) (f:FuncId) (vs h:List V) (r:V×List V) (hr:lkE T Q f vs h=some r):Cl f vs h=some r:=by
 unfold lkE at hr
 split at hr
 ·rename_i e he
  have h1:=List.find?_some he
  have h2:=hT e (List.mem_of_find?_eq_some he)
  simp only[Bool.and_eq_true]at h1
  obtain⟨⟨h3,h4⟩,h5⟩:=h1
  rw[←Option.some.inj hr,←Nat.eq_of_beq_eq_true h3,←DW _ _ h4,←DW _ _ h5]
  exact h2
 ·exact hQ _ _ _ _ hr
def by8 (l:List Int):List V:=l.map (V.int .u8)
def T0:List Ent:=[]
theorem ZX:∀e∈T0,e.ok:=by intro e he;cases he
def T1:List Ent:=⟨9,[.agg 31 [.int .i64 2,.lst 29 .sh [.agg 28 [.int .i64 0,.int .i64 1,.int .i64 5]]],.agg 33 [.str [115,115,115,112],.int .i64 0,.int .i64 3],.int .i64 1,.int .i64 0],[.agg 31 [.int .i64 2,.lst 29 .sh [.agg 28 [.int .i64 0,.int .i64 1,.int .i64 5]]],.agg 33 [.str [115,115,115,112],.int .i64 0,.int .i64 3]],(.tup [.ref 4 [] 66,.int .i64 0],[.agg 31 [.int .i64 2,.lst 29 .sh [.agg 28 [.int .i64 0,.int .i64 1,.int .i64 5]]],.agg 33 [.str [115,115,115,112],.int .i64 0,.int .i64 3],.agg 31 [.int .i64 2,.lst 29 .sh [.agg 28 [.int .i64 0,.int .i64 1,.int .i64 5]]],.agg 33 [.str [115,115,115,112],.int .i64 0,.int .i64 3],.agg 65 [.agg 31 [.int .i64 2,.lst 29 .sh [.agg 28 [.int .i64 0,.int .i64 1,.int .i64 5]]],.agg 33 [.str [115,115,115,112],.int .i64 0,.int .i64 3],.int .i64 1,.int .i64 0,.int .i64 0,.lst 68 .nil [],.lst 68 .own [.agg 67 [.int .i64 0,.int .i64 0,.bool true,.bool false,.int .i64 0],.agg 67 [.int .i64 1,.int .i64 (-1),.bool true,.bool false,.int .i64 0]],.bool false]])⟩::T0
theorem ZY:∀e∈T1,e.ok:=List.forall_mem_cons.2 ⟨(AX (Aq ZX BF) 400).1 _ _ _ _ (by kernel_rfl),ZX⟩
def T2:List Ent:=⟨42,[.lst 68 .sh [.agg 67 [.int .i64 0,.int .i64 0,.bool true,.bool false,.int .i64 0],.agg 67 [.int .i64 1,.int .i64 (-1),.bool true,.bool false,.int .i64 0]]],[],(.lst 9 .sh [.str [0,0,1,0,0],.str [1,1,1,0,0]],[])⟩::T1
theorem Za:∀e∈T2,e.ok:=List.forall_mem_cons.2 ⟨(AX (Aq ZY BF) 400).1 _ _ _ _ (by kernel_rfl),ZY⟩
def T3:List Ent:=⟨21,[.lst 68 .sh [.agg 67 [.int .i64 0,.int .i64 0,.bool true,.bool false,.int .i64 0],.agg 67 [.int .i64 1,.int .i64 (-1),.bool true,.bool false,.int .i64 0]]],[],(.agg 39 (by8 [150,43,153,188,10,22,125,174,31,250,120,209,18,105,255,193,73,34,213,37,202,22,214,2,72,242,199,202,168,105,70,3]),[])⟩::T2
theorem Zb:∀e∈T3,e.ok:=List.forall_mem_cons.2 ⟨(AX (Aq Za BF) 400).1 _ _ _ _ (by kernel_rfl),Za⟩
def T4:List Ent:=⟨10,[.ref 4 [] 66],[.agg 31 [.int .i64 2,.lst 29 .sh [.agg 28 [.int .i64 0,.int .i64 1,.int .i64 5]]],.agg 33 [.str [115,115,115,112],.int .i64 0,.int .i64 3],.agg 31 [.int .i64 2,.lst 29 .sh [.agg 28 [.int .i64 0,.int .i64 1,.int .i64 5]]],.agg 33 [.str [115,115,115,112],.int .i64 0,.int .i64 3],.agg 65 [.agg 31 [.int .i64 2,.lst 29 .sh [.agg 28 [.int .i64 0,.int .i64 1,.int .i64 5]]],.agg 33 [.str [115,115,115,112],.int .i64 0,.int .i64 3],.int .i64 1,.int .i64 0,.int .i64 0,.lst 68 .nil [],.lst 68 .own [.agg 67 [.int .i64 0,.int .i64 0,.bool true,.bool false,.int .i64 0],.agg 67 [.int .i64 1,.int .i64 (-1),.bool true,.bool false,.int .i64 0]],.bool false]],(.agg 39 (by8 [150,43,153,188,10,22,125,174,31,250,120,209,18,105,255,193,73,34,213,37,202,22,214,2,72,242,199,202,168,105,70,3]),[.agg 31 [.int .i64 2,.lst 29 .sh [.agg 28 [.int .i64 0,.int .i64 1,.int .i64 5]]],.agg 33 [.str [115,115,115,112],.int .i64 0,.int .i64 3],.agg 31 [.int .i64 2,.lst 29 .sh [.agg 28 [.int .i64 0,.int .i64 1,.int .i64 5]]],.agg 33 [.str [115,115,115,112],.int .i64 0,.int .i64 3],.agg 65 [.agg 31 [.int .i64 2,.lst 29 .sh [.agg 28 [.int .i64 0,.int .i64 1,.int .i64 5]]],.agg 33 [.str [115,115,115,112],.int .i64 0,.int .i64 3],.int .i64 1,.int .i64 0,.int .i64 0,.lst 68 .nil [],.lst 68 .own [.agg 67 [.int .i64 0,.int .i64 0,.bool true,.bool false,.int .i64 0],.agg 67 [.int .i64 1,.int .i64 (-1),.bool true,.bool false,.int .i64 0]],.bool false]])⟩::T3
theorem Zc:∀e∈T4,e.ok:=List.forall_mem_cons.2 ⟨(AX (Aq Zb BF) 400).1 _ _ _ _ (by kernel_rfl),Zb⟩
def T5:List Ent:=⟨30,[.lst 76 .sh []],[],(.lst 76 .sh [],[])⟩::T4
theorem Zd:∀e∈T5,e.ok:=List.forall_mem_cons.2 ⟨(AX (Aq Zc BF) 400).1 _ _ _ _ (by kernel_rfl),Zc⟩
def T6:List Ent:=⟨33,[.str [115,115,115,112],.lst 76 .sh [],.int .i64 0],[],(.tup [.int .i64 0,.bool false,.int .i64 0],[])⟩::T5
theorem Ze:∀e∈T6,e.ok:=List.forall_mem_cons.2 ⟨(AX (Aq Zd BF) 400).1 _ _ _ _ (by kernel_rfl),Zd⟩
def T7:List Ent:=⟨33,[.str [115,115,115,112],.lst 76 .sh [],.int .i64 1],[],(.tup [.int .i64 0,.bool false,.int .i64 0],[])⟩::T6
theorem Zf:∀e∈T7,e.ok:=List.forall_mem_cons.2 ⟨(AX (Aq Ze BF) 400).1 _ _ _ _ (by kernel_rfl),Ze⟩
def T8:List Ent:=⟨31,[.lst 68 .sh [.agg 67 [.int .i64 0,.int .i64 0,.bool true,.bool false,.int .i64 0],.agg 67 [.int .i64 1,.int .i64 (-1),.bool true,.bool false,.int .i64 0]],.clo 32 [.ref 5 [] 35,.ref 7 [] 45,.ref 9 [] 64]],[.agg 31 [.int .i64 2,.lst 29 .sh [.agg 28 [.int .i64 0,.int .i64 1,.int .i64 5]]],.agg 33 [.str [115,115,115,112],.int .i64 0,.int .i64 3],.agg 31 [.int .i64 2,.lst 29 .sh [.agg 28 [.int .i64 0,.int .i64 1,.int .i64 5]]],.agg 33 [.str [115,115,115,112],.int .i64 0,.int .i64 3],.agg 65 [.agg 31 [.int .i64 2,.lst 29 .sh [.agg 28 [.int .i64 0,.int .i64 1,.int .i64 5]]],.agg 33 [.str [115,115,115,112],.int .i64 0,.int .i64 3],.int .i64 1,.int .i64 0,.int .i64 0,.lst 68 .nil [],.lst 68 .own [.agg 67 [.int .i64 0,.int .i64 0,.bool true,.bool false,.int .i64 0],.agg 67 [.int .i64 1,.int .i64 (-1),.bool true,.bool false,.int .i64 0]],.bool false],.ref 4 [] 66,.int .i64 0,.lst 76 .sh [],.agg 49 [.int .i64 0,.str [],.lst 9 .nil []],.lst 68 .nil [],.lst 68 .nil [],.lst 76 .nil []],(.int .i64 0,[.agg 31 [.int .i64 2,.lst 29 .sh [.agg 28 [.int .i64 0,.int .i64 1,.int .i64 5]]],.agg 33 [.str [115,115,115,112],.int .i64 0,.int .i64 3],.agg 31 [.int .i64 2,.lst 29 .sh [.agg 28 [.int .i64 0,.int .i64 1,.int .i64 5]]],.agg 33 [.str [115,115,115,112],.int .i64 0,.int .i64 3],.agg 65 [.agg 31 [.int .i64 2,.lst 29 .sh [.agg 28 [.int .i64 0,.int .i64 1,.int .i64 5]]],.agg 33 [.str [115,115,115,112],.int .i64 0,.int .i64 3],.int .i64 1,.int .i64 0,.int .i64 0,.lst 68 .nil [],.lst 68 .own [.agg 67 [.int .i64 0,.int .i64 0,.bool true,.bool false,.int .i64 0],.agg 67 [.int .i64 1,.int .i64 (-1),.bool true,.bool false,.int .i64 0]],.bool false],.ref 4 [] 66,.int .i64 0,.lst 76 .sh [],.agg 49 [.int .i64 0,.str [],.lst 9 .nil []],.lst 68 .own [.agg 67 [.int .i64 0,.int .i64 0,.bool true,.bool false,.int .i64 0],.agg 67 [.int .i64 1,.int .i64 (-1),.bool true,.bool false,.int .i64 0]],.lst 68 .nil [],.lst 76 .nil []])⟩::T7
theorem Zg:∀e∈T8,e.ok:=List.forall_mem_cons.2 ⟨(AX (Aq Zf BF) 400).1 _ _ _ _ (by kernel_rfl),Zf⟩
def T9:List Ent:=⟨35,[.agg 31 [.int .i64 2,.lst 29 .sh [.agg 28 [.int .i64 0,.int .i64 1,.int .i64 5]]],.agg 33 [.str [115,115,115,112],.int .i64 0,.int .i64 3],.int .i64 0,.agg 67 [.int .i64 0,.int .i64 0,.bool true,.bool false,.int .i64 0]],[],(.tup [.agg 67 [.int .i64 0,.int .i64 0,.bool false,.bool false,.int .i64 0],.lst 76 .sh [.agg 75 [.int .i64 0,.int .i64 1,.int .i64 5]],.int .i64 0],[])⟩::T8
theorem Zh:∀e∈T9,e.ok:=List.forall_mem_cons.2 ⟨(AX (Aq Zg BF) 400).1 _ _ _ _ (by kernel_rfl),Zg⟩
def T10:List Ent:=⟨35,[.agg 31 [.int .i64 2,.lst 29 .sh [.agg 28 [.int .i64 0,.int .i64 1,.int .i64 5]]],.agg 33 [.str [115,115,115,112],.int .i64 0,.int .i64 3],.int .i64 0,.agg 67 [.int .i64 1,.int .i64 (-1),.bool true,.bool false,.int .i64 0]],[],(.tup [.agg 67 [.int .i64 1,.int .i64 (-1),.bool false,.bool false,.int .i64 0],.lst 76 .sh [],.int .i64 0],[])⟩::T9
theorem Vz:∀e∈T10,e.ok:=List.forall_mem_cons.2 ⟨(AX (Aq Zh BF) 400).1 _ _ _ _ (by kernel_rfl),Zh⟩
def T11:List Ent:=⟨31,[.lst 68 .sh [.agg 67 [.int .i64 0,.int .i64 0,.bool true,.bool false,.int .i64 0],.agg 67 [.int .i64 1,.int .i64 (-1),.bool true,.bool false,.int .i64 0]],.clo 34 [.ref 5 [] 35,.ref 6 [] 3,.ref 10 [] 64,.ref 11 [] 45]],[.agg 31 [.int .i64 2,.lst 29 .sh [.agg 28 [.int .i64 0,.int .i64 1,.int .i64 5]]],.agg 33 [.str [115,115,115,112],.int .i64 0,.int .i64 3],.agg 31 [.int .i64 2,.lst 29 .sh [.agg 28 [.int .i64 0,.int .i64 1,.int .i64 5]]],.agg 33 [.str [115,115,115,112],.int .i64 0,.int .i64 3],.agg 65 [.agg 31 [.int .i64 2,.lst 29 .sh [.agg 28 [.int .i64 0,.int .i64 1,.int .i64 5]]],.agg 33 [.str [115,115,115,112],.int .i64 0,.int .i64 3],.int .i64 1,.int .i64 0,.int .i64 0,.lst 68 .nil [],.lst 68 .own [.agg 67 [.int .i64 0,.int .i64 0,.bool true,.bool false,.int .i64 0],.agg 67 [.int .i64 1,.int .i64 (-1),.bool true,.bool false,.int .i64 0]],.bool false],.ref 4 [] 66,.int .i64 0,.lst 76 .sh [],.agg 49 [.int .i64 0,.str [],.lst 9 .nil []],.lst 68 .own [.agg 67 [.int .i64 0,.int .i64 0,.bool true,.bool false,.int .i64 0],.agg 67 [.int .i64 1,.int .i64 (-1),.bool true,.bool false,.int .i64 0]],.lst 68 .nil [],.lst 76 .nil []],(.int .i64 0,[.agg 31 [.int .i64 2,.lst 29 .sh [.agg 28 [.int .i64 0,.int .i64 1,.int .i64 5]]],.agg 33 [.str [115,115,115,112],.int .i64 0,.int .i64 3],.agg 31 [.int .i64 2,.lst 29 .sh [.agg 28 [.int .i64 0,.int .i64 1,.int .i64 5]]],.agg 33 [.str [115,115,115,112],.int .i64 0,.int .i64 3],.agg 65 [.agg 31 [.int .i64 2,.lst 29 .sh [.agg 28 [.int .i64 0,.int .i64 1,.int .i64 5]]],.agg 33 [.str [115,115,115,112],.int .i64 0,.int .i64 3],.int .i64 1,.int .i64 0,.int .i64 0,.lst 68 .nil [],.lst 68 .own [.agg 67 [.int .i64 0,.int .i64 0,.bool true,.bool false,.int .i64 0],.agg 67 [.int .i64 1,.int .i64 (-1),.bool true,.bool false,.int .i64 0]],.bool false],.ref 4 [] 66,.int .i64 0,.lst 76 .sh [],.agg 49 [.int .i64 0,.str [],.lst 9 .nil []],.lst 68 .own [.agg 67 [.int .i64 0,.int .i64 0,.bool true,.bool false,.int .i64 0],.agg 67 [.int .i64 1,.int .i64 (-1),.bool true,.bool false,.int .i64 0]],.lst 68 .own [.agg 67 [.int .i64 0,.int .i64 0,.bool false,.bool false,.int .i64 0],.agg 67 [.int .i64 1,.int .i64 (-1),.bool false,.bool false,.int .i64 0]],.lst 76 .own [.agg 75 [.int .i64 0,.int .i64 1,.int .i64 5]]])⟩::T10
theorem V3:∀e∈T11,e.ok:=List.forall_mem_cons.2 ⟨(AX (Aq Vz BF) 400).1 _ _ _ _ (by kernel_rfl),Vz⟩
def T12:List Ent:=⟨30,[.lst 76 .sh [.agg 75 [.int .i64 0,.int .i64 1,.int .i64 5]]],[],(.lst 76 .sh [.agg 75 [.int .i64 0,.int .i64 1,.int .i64 5]],[])⟩::T11
theorem V4:∀e∈T12,e.ok:=List.forall_mem_cons.2 ⟨(AX (Aq V3 BF) 400).1 _ _ _ _ (by kernel_rfl),V3⟩
def T13:List Ent:=⟨36,[.int .i64 1,.lst 76 .sh [.agg 75 [.int .i64 0,.int .i64 1,.int .i64 5]]],[],(.tup [.lst 45 .sh [.lst 76 .sh [.agg 75 [.int .i64 0,.int .i64 1,.int .i64 5]]],.int .i64 0],[])⟩::T12
theorem V5:∀e∈T13,e.ok:=List.forall_mem_cons.2 ⟨(AX (Aq V4 BF) 400).1 _ _ _ _ (by kernel_rfl),V4⟩
def T14:List Ent:=⟨42,[.lst 68 .sh [.agg 67 [.int .i64 0,.int .i64 0,.bool false,.bool false,.int .i64 0],.agg 67 [.int .i64 1,.int .i64 (-1),.bool false,.bool false,.int .i64 0]]],[],(.lst 9 .sh [.str [0,0,0,0,0],.str [1,1,0,0,0]],[])⟩::T13
theorem V6:∀e∈T14,e.ok:=List.forall_mem_cons.2 ⟨(AX (Aq V5 BF) 400).1 _ _ _ _ (by kernel_rfl),V5⟩
def T15:List Ent:=⟨21,[.lst 68 .sh [.agg 67 [.int .i64 0,.int .i64 0,.bool false,.bool false,.int .i64 0],.agg 67 [.int .i64 1,.int .i64 (-1),.bool false,.bool false,.int .i64 0]]],[],(.agg 39 (by8 [122,108,79,21,176,240,237,199,155,2,210,19,58,124,119,200,225,82,232,215,247,145,243,145,125,218,178,100,224,26,96,18]),[])⟩::T14
theorem V7:∀e∈T15,e.ok:=List.forall_mem_cons.2 ⟨(AX (Aq V6 BF) 400).1 _ _ _ _ (by kernel_rfl),V6⟩
def T16:List Ent:=⟨27,[.lst 76 .sh [.agg 75 [.int .i64 0,.int .i64 1,.int .i64 5]]],[],(.agg 39 (by8 [42,237,57,191,39,46,253,156,91,120,169,228,39,137,60,170,135,93,169,73,212,32,122,104,196,31,46,52,187,254,72,237]),[])⟩::T15
theorem V8:∀e∈T16,e.ok:=List.forall_mem_cons.2 ⟨(AX (Aq V7 BF) 400).1 _ _ _ _ (by kernel_rfl),V7⟩
def T17:List Ent:=⟨37,[.int .i64 0,.int .i64 0,.lst 68 .sh [.agg 67 [.int .i64 0,.int .i64 0,.bool false,.bool false,.int .i64 0],.agg 67 [.int .i64 1,.int .i64 (-1),.bool false,.bool false,.int .i64 0]],.lst 45 .sh [.lst 76 .sh [.agg 75 [.int .i64 0,.int .i64 1,.int .i64 5]]]],[],(.tup [.agg 43 [.int .i64 0,.int .i64 0,.agg 39 (by8 [122,108,79,21,176,240,237,199,155,2,210,19,58,124,119,200,225,82,232,215,247,145,243,145,125,218,178,100,224,26,96,18]),.lst 40 .sh [.agg 39 (by8 [42,237,57,191,39,46,253,156,91,120,169,228,39,137,60,170,135,93,169,73,212,32,122,104,196,31,46,52,187,254,72,237])]],.int .i64 0],[])⟩::T16
theorem V9:∀e∈T17,e.ok:=List.forall_mem_cons.2 ⟨(AX (Aq V8 BF) 400).1 _ _ _ _ (by kernel_rfl),V8⟩
def T18:List Ent:=⟨38,[.agg 43 [.int .i64 0,.int .i64 0,.agg 39 (by8 [122,108,79,21,176,240,237,199,155,2,210,19,58,124,119,200,225,82,232,215,247,145,243,145,125,218,178,100,224,26,96,18]),.lst 40 .sh [.agg 39 (by8 [42,237,57,191,39,46,253,156,91,120,169,228,39,137,60,170,135,93,169,73,212,32,122,104,196,31,46,52,187,254,72,237])]]],[],(.tup [.str [67,0,0,122,108,79,21,176,240,237,199,155,2,210,19,58,124,119,200,225,82,232,215,247,145,243,145,125,218,178,100,224,26,96,18,1,42,237,57,191,39,46,253,156,91,120,169,228,39,137,60,170,135,93,169,73,212,32,122,104,196,31,46,52,187,254,72,237],.int .i64 0],[])⟩::T17
theorem WA:∀e∈T18,e.ok:=List.forall_mem_cons.2 ⟨(AX (Aq V9 BF) 400).1 _ _ _ _ (by kernel_rfl),V9⟩
def T19:List Ent:=⟨39,[.lst 76 .sh [.agg 75 [.int .i64 0,.int .i64 1,.int .i64 5]]],[],(.tup [.str [1,3,0,1,10],.int .i64 0],[])⟩::T18
theorem WB:∀e∈T19,e.ok:=List.forall_mem_cons.2 ⟨(AX (Aq WA BF) 400).1 _ _ _ _ (by kernel_rfl),WA⟩
def T20:List Ent:=⟨12,[.ref 4 [] 66,.int .i64 0,.lst 76 .sh []],[.agg 31 [.int .i64 2,.lst 29 .sh [.agg 28 [.int .i64 0,.int .i64 1,.int .i64 5]]],.agg 33 [.str [115,115,115,112],.int .i64 0,.int .i64 3],.agg 31 [.int .i64 2,.lst 29 .sh [.agg 28 [.int .i64 0,.int .i64 1,.int .i64 5]]],.agg 33 [.str [115,115,115,112],.int .i64 0,.int .i64 3],.agg 65 [.agg 31 [.int .i64 2,.lst 29 .sh [.agg 28 [.int .i64 0,.int .i64 1,.int .i64 5]]],.agg 33 [.str [115,115,115,112],.int .i64 0,.int .i64 3],.int .i64 1,.int .i64 0,.int .i64 0,.lst 68 .nil [],.lst 68 .own [.agg 67 [.int .i64 0,.int .i64 0,.bool true,.bool false,.int .i64 0],.agg 67 [.int .i64 1,.int .i64 (-1),.bool true,.bool false,.int .i64 0]],.bool false]],(.agg 49 [.int .i64 0,.str [67,0,0,122,108,79,21,176,240,237,199,155,2,210,19,58,124,119,200,225,82,232,215,247,145,243,145,125,218,178,100,224,26,96,18,1,42,237,57,191,39,46,253,156,91,120,169,228,39,137,60,170,135,93,169,73,212,32,122,104,196,31,46,52,187,254,72,237],.lst 9 .sh [.str [1,3,0,1,10]]],[.agg 31 [.int .i64 2,.lst 29 .sh [.agg 28 [.int .i64 0,.int .i64 1,.int .i64 5]]],.agg 33 [.str [115,115,115,112],.int .i64 0,.int .i64 3],.agg 31 [.int .i64 2,.lst 29 .sh [.agg 28 [.int .i64 0,.int .i64 1,.int .i64 5]]],.agg 33 [.str [115,115,115,112],.int .i64 0,.int .i64 3],.agg 65 [.agg 31 [.int .i64 2,.lst 29 .sh [.agg 28 [.int .i64 0,.int .i64 1,.int .i64 5]]],.agg 33 [.str [115,115,115,112],.int .i64 0,.int .i64 3],.int .i64 1,.int .i64 0,.int .i64 1,.lst 68 .sh [.agg 67 [.int .i64 0,.int .i64 0,.bool true,.bool false,.int .i64 0],.agg 67 [.int .i64 1,.int .i64 (-1),.bool true,.bool false,.int .i64 0]],.lst 68 .sh [.agg 67 [.int .i64 0,.int .i64 0,.bool false,.bool false,.int .i64 0],.agg 67 [.int .i64 1,.int .i64 (-1),.bool false,.bool false,.int .i64 0]],.bool true]])⟩::T19
theorem WC:∀e∈T20,e.ok:=List.forall_mem_cons.2 ⟨(AX (Aq WB BF) 400).1 _ _ _ _ (by kernel_rfl),WB⟩
def T21:List Ent:=⟨22,[.str [67,0,0,122,108,79,21,176,240,237,199,155,2,210,19,58,124,119,200,225,82,232,215,247,145,243,145,125,218,178,100,224,26,96,18,1,42,237,57,191,39,46,253,156,91,120,169,228,39,137,60,170,135,93,169,73,212,32,122,104,196,31,46,52,187,254,72,237]],[],(.tup [.agg 43 [.int .i64 0,.int .i64 0,.agg 39 (by8 [122,108,79,21,176,240,237,199,155,2,210,19,58,124,119,200,225,82,232,215,247,145,243,145,125,218,178,100,224,26,96,18]),.lst 40 .sh [.agg 39 (by8 [42,237,57,191,39,46,253,156,91,120,169,228,39,137,60,170,135,93,169,73,212,32,122,104,196,31,46,52,187,254,72,237])]],.int .i64 0],[])⟩::T20
theorem WE:∀e∈T21,e.ok:=List.forall_mem_cons.2 ⟨(AX (Aq WC BF) 400).1 _ _ _ _ (by kernel_rfl),WC⟩
def T22:List Ent:=⟨24,[.str [1,3,0,1,10]],[],(.tup [.lst 76 .sh [.agg 75 [.int .i64 0,.int .i64 1,.int .i64 5]],.int .i64 0],[])⟩::T21
theorem WH:∀e∈T22,e.ok:=List.forall_mem_cons.2 ⟨(AX (Aq WE BF) 400).1 _ _ _ _ (by kernel_rfl),WE⟩
def T23:List Ent:=⟨29,[.agg 31 [.int .i64 2,.lst 29 .sh [.agg 28 [.int .i64 0,.int .i64 1,.int .i64 5]]],.lst 76 .sh [.agg 75 [.int .i64 0,.int .i64 1,.int .i64 5]]],[],(.int .i64 0,[])⟩::T22
theorem WI:∀e∈T23,e.ok:=List.forall_mem_cons.2 ⟨(AX (Aq WH BF) 400).1 _ _ _ _ (by kernel_rfl),WH⟩
def T24:List Ent:=⟨11,[.agg 31 [.int .i64 2,.lst 29 .sh [.agg 28 [.int .i64 0,.int .i64 1,.int .i64 5]]],.agg 33 [.str [115,115,115,112],.int .i64 0,.int .i64 3],.int .i64 1,.int .i64 0,.int .i64 0,.agg 49 [.int .i64 0,.str [67,0,0,122,108,79,21,176,240,237,199,155,2,210,19,58,124,119,200,225,82,232,215,247,145,243,145,125,218,178,100,224,26,96,18,1,42,237,57,191,39,46,253,156,91,120,169,228,39,137,60,170,135,93,169,73,212,32,122,104,196,31,46,52,187,254,72,237],.lst 9 .sh [.str [1,3,0,1,10]]]],[],(.tup [.agg 43 [.int .i64 0,.int .i64 0,.agg 39 (by8 [122,108,79,21,176,240,237,199,155,2,210,19,58,124,119,200,225,82,232,215,247,145,243,145,125,218,178,100,224,26,96,18]),.lst 40 .sh [.agg 39 (by8 [42,237,57,191,39,46,253,156,91,120,169,228,39,137,60,170,135,93,169,73,212,32,122,104,196,31,46,52,187,254,72,237])]],.lst 76 .sh [.agg 75 [.int .i64 0,.int .i64 1,.int .i64 5]],.int .i64 0],[])⟩::T23
theorem WJ:∀e∈T24,e.ok:=List.forall_mem_cons.2 ⟨(AX (Aq WI BF) 400).1 _ _ _ _ (by kernel_rfl),WI⟩
def T25:List Ent:=⟨41,[.lst 9 .sh [.str [0,0,1,0,0],.str [1,1,1,0,0]],.int .i64 1],[],(.tup [.lst 40 .sh [.agg 39 (by8 [16,72,125,134,206,53,132,225,86,135,78,217,178,101,14,141,119,42,141,31,219,177,201,17,27,247,226,251,202,177,140,203])],.int .i64 0],[])⟩::T24
theorem WL:∀e∈T25,e.ok:=List.forall_mem_cons.2 ⟨(AX (Aq WJ BF) 400).1 _ _ _ _ (by kernel_rfl),WJ⟩
def T26:List Ent:=⟨41,[.lst 9 .sh [.str [0,0,0,0,0],.str [1,1,0,0,0]],.int .i64 1],[],(.tup [.lst 40 .sh [.agg 39 (by8 [176,246,106,220,131,100,21,134,101,104,102,129,63,217,221,11,142,187,99,121,96,117,102,27,164,93,26,168,8,158,29,68])],.int .i64 0],[])⟩::T25
theorem WM:∀e∈T26,e.ok:=List.forall_mem_cons.2 ⟨(AX (Aq WL BF) 400).1 _ _ _ _ (by kernel_rfl),WL⟩
def T27:List Ent:=⟨13,[.ref 4 [] 66,.int .i64 1],[.agg 31 [.int .i64 2,.lst 29 .sh [.agg 28 [.int .i64 0,.int .i64 1,.int .i64 5]]],.agg 33 [.str [115,115,115,112],.int .i64 0,.int .i64 3],.agg 31 [.int .i64 2,.lst 29 .sh [.agg 28 [.int .i64 0,.int .i64 1,.int .i64 5]]],.agg 33 [.str [115,115,115,112],.int .i64 0,.int .i64 3],.agg 65 [.agg 31 [.int .i64 2,.lst 29 .sh [.agg 28 [.int .i64 0,.int .i64 1,.int .i64 5]]],.agg 33 [.str [115,115,115,112],.int .i64 0,.int .i64 3],.int .i64 1,.int .i64 0,.int .i64 1,.lst 68 .sh [.agg 67 [.int .i64 0,.int .i64 0,.bool true,.bool false,.int .i64 0],.agg 67 [.int .i64 1,.int .i64 (-1),.bool true,.bool false,.int .i64 0]],.lst 68 .sh [.agg 67 [.int .i64 0,.int .i64 0,.bool false,.bool false,.int .i64 0],.agg 67 [.int .i64 1,.int .i64 (-1),.bool false,.bool false,.int .i64 0]],.bool true],.agg 39 (by8 [150,43,153,188,10,22,125,174,31,250,120,209,18,105,255,193,73,34,213,37,202,22,214,2,72,242,199,202,168,105,70,3]),.agg 43 [.int .i64 0,.int .i64 0,.agg 39 (by8 [122,108,79,21,176,240,237,199,155,2,210,19,58,124,119,200,225,82,232,215,247,145,243,145,125,218,178,100,224,26,96,18]),.lst 40 .sh [.agg 39 (by8 [42,237,57,191,39,46,253,156,91,120,169,228,39,137,60,170,135,93,169,73,212,32,122,104,196,31,46,52,187,254,72,237])]]],(.tup [.agg 52 [.int .i64 1,.str [1,1,1,0,0],.str [1,1,0,0,0],.lst 40 .sh [.agg 39 (by8 [16,72,125,134,206,53,132,225,86,135,78,217,178,101,14,141,119,42,141,31,219,177,201,17,27,247,226,251,202,177,140,203])],.lst 40 .sh [.agg 39 (by8 [176,246,106,220,131,100,21,134,101,104,102,129,63,217,221,11,142,187,99,121,96,117,102,27,164,93,26,168,8,158,29,68])]],.int .i64 0],[.agg 31 [.int .i64 2,.lst 29 .sh [.agg 28 [.int .i64 0,.int .i64 1,.int .i64 5]]],.agg 33 [.str [115,115,115,112],.int .i64 0,.int .i64 3],.agg 31 [.int .i64 2,.lst 29 .sh [.agg 28 [.int .i64 0,.int .i64 1,.int .i64 5]]],.agg 33 [.str [115,115,115,112],.int .i64 0,.int .i64 3],.agg 65 [.agg 31 [.int .i64 2,.lst 29 .sh [.agg 28 [.int .i64 0,.int .i64 1,.int .i64 5]]],.agg 33 [.str [115,115,115,112],.int .i64 0,.int .i64 3],.int .i64 1,.int .i64 0,.int .i64 1,.lst 68 .sh [.agg 67 [.int .i64 0,.int .i64 0,.bool true,.bool false,.int .i64 0],.agg 67 [.int .i64 1,.int .i64 (-1),.bool true,.bool false,.int .i64 0]],.lst 68 .sh [.agg 67 [.int .i64 0,.int .i64 0,.bool false,.bool false,.int .i64 0],.agg 67 [.int .i64 1,.int .i64 (-1),.bool false,.bool false,.int .i64 0]],.bool true],.agg 39 (by8 [150,43,153,188,10,22,125,174,31,250,120,209,18,105,255,193,73,34,213,37,202,22,214,2,72,242,199,202,168,105,70,3]),.agg 43 [.int .i64 0,.int .i64 0,.agg 39 (by8 [122,108,79,21,176,240,237,199,155,2,210,19,58,124,119,200,225,82,232,215,247,145,243,145,125,218,178,100,224,26,96,18]),.lst 40 .sh [.agg 39 (by8 [42,237,57,191,39,46,253,156,91,120,169,228,39,137,60,170,135,93,169,73,212,32,122,104,196,31,46,52,187,254,72,237])]]])⟩::T26
theorem WN:∀e∈T27,e.ok:=List.forall_mem_cons.2 ⟨(AX (Aq WM BF) 400).1 _ _ _ _ (by kernel_rfl),WM⟩
def T28:List Ent:=⟨43,[.agg 39 (by8 [150,43,153,188,10,22,125,174,31,250,120,209,18,105,255,193,73,34,213,37,202,22,214,2,72,242,199,202,168,105,70,3]),.int .i64 2,.int .i64 1,.str [1,1,1,0,0],.lst 40 .sh [.agg 39 (by8 [16,72,125,134,206,53,132,225,86,135,78,217,178,101,14,141,119,42,141,31,219,177,201,17,27,247,226,251,202,177,140,203])]],[],(.bool true,[])⟩::T27
theorem WO:∀e∈T28,e.ok:=List.forall_mem_cons.2 ⟨(AX (Aq WN BF) 400).1 _ _ _ _ (by kernel_rfl),WN⟩
def T29:List Ent:=⟨43,[.agg 39 (by8 [122,108,79,21,176,240,237,199,155,2,210,19,58,124,119,200,225,82,232,215,247,145,243,145,125,218,178,100,224,26,96,18]),.int .i64 2,.int .i64 1,.str [1,1,0,0,0],.lst 40 .sh [.agg 39 (by8 [176,246,106,220,131,100,21,134,101,104,102,129,63,217,221,11,142,187,99,121,96,117,102,27,164,93,26,168,8,158,29,68])]],[],(.bool true,[])⟩::T28
theorem WQ:∀e∈T29,e.ok:=List.forall_mem_cons.2 ⟨(AX (Aq WO BF) 400).1 _ _ _ _ (by kernel_rfl),WO⟩
def T30:List Ent:=⟨44,[.str [1,1,1,0,0]],[],(.tup [.agg 67 [.int .i64 1,.int .i64 (-1),.bool true,.bool false,.int .i64 0],.int .i64 0],[])⟩::T29
theorem WR:∀e∈T30,e.ok:=List.forall_mem_cons.2 ⟨(AX (Aq WQ BF) 400).1 _ _ _ _ (by kernel_rfl),WQ⟩
def T31:List Ent:=⟨46,[.lst 76 .sh [.agg 75 [.int .i64 0,.int .i64 1,.int .i64 5]],.int .i64 1],[],(.lst 76 .sh [],[])⟩::T30
theorem WS:∀e∈T31,e.ok:=List.forall_mem_cons.2 ⟨(AX (Aq WR BF) 400).1 _ _ _ _ (by kernel_rfl),WR⟩
def T32:List Ent:=⟨14,[.agg 31 [.int .i64 2,.lst 29 .sh [.agg 28 [.int .i64 0,.int .i64 1,.int .i64 5]]],.agg 33 [.str [115,115,115,112],.int .i64 0,.int .i64 3],.int .i64 1,.int .i64 0,.int .i64 0,.agg 39 (by8 [150,43,153,188,10,22,125,174,31,250,120,209,18,105,255,193,73,34,213,37,202,22,214,2,72,242,199,202,168,105,70,3]),.agg 39 (by8 [122,108,79,21,176,240,237,199,155,2,210,19,58,124,119,200,225,82,232,215,247,145,243,145,125,218,178,100,224,26,96,18]),.lst 76 .sh [],.lst 76 .sh [.agg 75 [.int .i64 0,.int .i64 1,.int .i64 5]],.agg 52 [.int .i64 1,.str [1,1,1,0,0],.str [1,1,0,0,0],.lst 40 .sh [.agg 39 (by8 [16,72,125,134,206,53,132,225,86,135,78,217,178,101,14,141,119,42,141,31,219,177,201,17,27,247,226,251,202,177,140,203])],.lst 40 .sh [.agg 39 (by8 [176,246,106,220,131,100,21,134,101,104,102,129,63,217,221,11,142,187,99,121,96,117,102,27,164,93,26,168,8,158,29,68])]]],[],(.int .i64 0,[])⟩::T31
theorem WT:∀e∈T32,e.ok:=List.forall_mem_cons.2 ⟨(AX (Aq WS BF) 400).1 _ _ _ _ (by kernel_rfl),WS⟩
def T33:List Ent:=⟨43,[.agg 39 (by8 [122,108,79,21,176,240,237,199,155,2,210,19,58,124,119,200,225,82,232,215,247,145,243,145,125,218,178,100,224,26,96,18]),.int .i64 2,.int .i64 1,.str [1,1,1,0,0],.lst 40 .sh [.agg 39 (by8 [176,246,106,220,131,100,21,134,101,104,102,129,63,217,221,11,142,187,99,121,96,117,102,27,164,93,26,168,8,158,29,68])]],[],(.bool false,[])⟩::T32
theorem WU:∀e∈T33,e.ok:=List.forall_mem_cons.2 ⟨(AX (Aq WT BF) 400).1 _ _ _ _ (by kernel_rfl),WT⟩
def T34:List Ent:=⟨14,[.agg 31 [.int .i64 2,.lst 29 .sh [.agg 28 [.int .i64 0,.int .i64 1,.int .i64 5]]],.agg 33 [.str [115,115,115,112],.int .i64 0,.int .i64 3],.int .i64 1,.int .i64 0,.int .i64 0,.agg 39 (by8 [150,43,153,188,10,22,125,174,31,250,120,209,18,105,255,193,73,34,213,37,202,22,214,2,72,242,199,202,168,105,70,3]),.agg 39 (by8 [122,108,79,21,176,240,237,199,155,2,210,19,58,124,119,200,225,82,232,215,247,145,243,145,125,218,178,100,224,26,96,18]),.lst 76 .sh [],.lst 76 .sh [.agg 75 [.int .i64 0,.int .i64 1,.int .i64 5]],.agg 52 [.int .i64 1,.str [1,1,1,0,0],.str [1,1,1,0,0],.lst 40 .sh [.agg 39 (by8 [16,72,125,134,206,53,132,225,86,135,78,217,178,101,14,141,119,42,141,31,219,177,201,17,27,247,226,251,202,177,140,203])],.lst 40 .sh [.agg 39 (by8 [176,246,106,220,131,100,21,134,101,104,102,129,63,217,221,11,142,187,99,121,96,117,102,27,164,93,26,168,8,158,29,68])]]],[],(.int .i64 144,[])⟩::T33
theorem WV:∀e∈T34,e.ok:=List.forall_mem_cons.2 ⟨(AX (Aq WU BF) 400).1 _ _ _ _ (by kernel_rfl),WU⟩
def T35:List Ent:=⟨7,[.int .i64 3,.int .i64 (-1),.lst 58 .sh []],[],(.lst 3 .sh [.int .i64 0,.int .i64 1,.int .i64 2],[])⟩::T34
theorem AAO:∀e∈T35,e.ok:=List.forall_mem_cons.2 ⟨(AX (Aq WV BF) 400).1 _ _ _ _ (by kernel_rfl),WV⟩
theorem YW:Cl 5 [] []=some (.bool true,[]):=(AX (Aq AAO BF) 400).1 _ _ _ _ (by kernel_rfl)
end
section
open Go AM
theorem YX {l:List Nat} (hn:l.length≤1000000):∀(m i:Nat),i+m=l.length→Rh (Eo l) (Eo l) (.int .i64 (i:Int))=some (.bool true,[]):=by
 intro m
 induction m with
 |zero=>
  intro i hi
  have ls:AQ .lss (.int .i64 (i:Int)) (.int .i64 ((l.map fun(a:Nat)=>V.int .i64 (a:Int)).length:Int))=some (.bool false):=by rw[b_lss,List.length_map,decide_eq_false (by omega)]
  rw[OW]
  unfold Eo at*
  generalize (l.map fun(a:Nat)=>V.int .i64 (a:Int))=L at*
  (repeat' with_reducible first|refine(BD _ _).trans ?_|refine(BI _ _).trans ?_|refine(AO _ _).trans ?_|((first|(refine' (AA ?_ _).trans ?_;rotate_left)|refine(if_pos ?_).trans ?_|refine(Af ?_ _ _).trans ?_);focus (first|rfl|(simp(disch:=first|assumption|omega|with_reducible rfl|(simp only[go_sem]<;>omega)|fail) only[↓reduceIte,↓AO,Nat.reduceAdd,go_sem,Bool.not_true,Bool.not_false,ls]<;>first|rfl|omega)|assumption|omega))|(refine(Aa ?_ _ _).trans ?_;focus (first|(simp(disch:=first|assumption|omega|with_reducible rfl|(simp only[go_sem]<;>omega)|fail) only[↓reduceIte,↓AO,Nat.reduceAdd,go_sem,Bool.not_true,Bool.not_false,ls]<;>omega)|assumption|omega))|fail)
  rfl
 |succ m ih=>
  intro i hi
  have h:i<l.length:=by omega
  have ls:AQ .lss (.int .i64 (i:Int)) (.int .i64 ((l.map fun(a:Nat)=>V.int .i64 (a:Int)).length:Int))=some (.bool true):=by rw[b_lss,List.length_map,decide_eq_true (by omega)]
  have ix:RX 3 (V.weak (Eo l)) (.int .i64 (i:Int))=some (.rop 3 (.int .i64 (l[i]:Int))):=by
   show RX _ (.lst _ .sh _) _=_
   rw[Jk,List.getElem?_map,List.getElem?_eq_getElem h];rfl
  have ad:AQ .add (.int .i64 (i:Int)) (.int .i64 1)=some (.int .i64 ((i+1:Nat):Int)):=by rw[EG,wrap_i64 (by omega) (by omega)];rfl
  have ld:∀(h:List V) (x:V),BK h 3 (.rop 3 x)=some x:=fun h x=>by simp only[BK,if_true]
  have ne:AQ .neq (.int .i64 (l[i]:Int)) (.int .i64 (l[i]:Int))=some (.bool false):=by rw[b_neq];simp
  rw[←ih (i+1) (by omega),OW]
  clear ih
  unfold Eo at*
  generalize l[i]=x at*
  generalize (i+1:Nat)=i2 at*
  generalize (l.map fun(a:Nat)=>V.int .i64 (a:Int))=L at*
  (repeat' with_reducible first|refine(BD _ _).trans ?_|refine(BI _ _).trans ?_|refine(AO _ _).trans ?_|((first|(refine' (AA ?_ _).trans ?_;rotate_left)|refine(if_pos ?_).trans ?_|refine(Af ?_ _ _).trans ?_);focus (first|rfl|(simp(disch:=first|assumption|omega|with_reducible rfl|(simp only[go_sem]<;>omega)|fail) only[↓reduceIte,↓AO,Nat.reduceAdd,go_sem,Bool.not_true,Bool.not_false,ls,ix,ld,ne,ad]<;>first|rfl|omega)|assumption|omega))|(refine(Aa ?_ _ _).trans ?_;focus (first|(simp(disch:=first|assumption|omega|with_reducible rfl|(simp only[go_sem]<;>omega)|fail) only[↓reduceIte,↓AO,Nat.reduceAdd,go_sem,Bool.not_true,Bool.not_false,ls,ix,ld,ne,ad]<;>omega)|assumption|omega))|fail)
  rfl
theorem YZ {l:List Nat} (hn:l.length≤1000000):Cl 6 [Eo l,Eo l] []=some (.bool true,[]):=by
 have lp:=YX hn l.length 0 (by omega)
 have ne:AQ .neq (.int .i64 ((l.map fun(a:Nat)=>V.int .i64 (a:Int)).length:Int)) (.int .i64 ((l.map fun(a:Nat)=>V.int .i64 (a:Int)).length:Int))=some (.bool false):=by rw[b_neq];simp
 rw[←lp,ABs]
 clear lp
 unfold Eo at*
 generalize (l.map fun(a:Nat)=>V.int .i64 (a:Int))=L at*
 (repeat' with_reducible first|refine(BD _ _).trans ?_|refine(BI _ _).trans ?_|refine(AO _ _).trans ?_|((first|(refine' (AA ?_ _).trans ?_;rotate_left)|refine(if_pos ?_).trans ?_|refine(Af ?_ _ _).trans ?_);focus (first|rfl|(simp(disch:=first|assumption|omega|with_reducible rfl|(simp only[go_sem]<;>omega)|fail) only[↓reduceIte,↓AO,Nat.reduceAdd,go_sem,Bool.not_true,Bool.not_false,ne]<;>first|rfl|omega)|assumption|omega))|(refine(Aa ?_ _ _).trans ?_;focus (first|(simp(disch:=first|assumption|omega|with_reducible rfl|(simp only[go_sem]<;>omega)|fail) only[↓reduceIte,↓AO,Nat.reduceAdd,go_sem,Bool.not_true,Bool.not_false,ne]<;>omega)|assumption|omega))|fail)
 rfl
theorem WW (n k:Int) (D:List Nat):(GH n k D).length≤64:=by
 unfold GH
 split
 ·have:=List.length_filter_le (DY n.toNat k D) (List.range n.toNat)
  rw[List.length_range]at this
  omega
 ·simp
theorem cpU {D:List Nat} (hl:D.length≤1000000) (h:List V) (f:Fl) (hf:f= .sh∨f= .nil):RY 58 (AM.tyI .u32) false h (.lst 58 .own []) (vU f D)=some (vU .own D):=by
 have pl:LZ (D.map fun(d:Nat)=>V.int .u32 (d:Int))=true:=RZ (fun _=>rfl) D
 unfold vU
 rw[JJ (UC pl) (all_map (fun _=>rfl) D) (by simp;omega),List.nil_append]
 rfl
theorem KN (n k:Int) {D:List Nat} (hD:∀d∈D,d<4294967296):Cl 3 [.int .i64 n,.int .i64 k,vU .sh D] []=some (.bool true,[]):=by
 have hA:=YW
 have wk:(vU .sh D).weak=vU .sh D:=rfl
 have nt:un .not (.bool true)=some (.bool false):=rfl
 have lL:U7 (vU .sh D)=some (.int .i64 (D.length:Int)):=by show some _=_;rw[List.length_map]
 by_cases c1:100<D.length
 ·have g1:AQ .gtr (.int .i64 (D.length:Int)) (.int .i64 100)=some (.bool true):=by rw[b_gtr,decide_eq_true (by omega)]
  rw[VU,wk]
  generalize vU .sh D=L at*
  (repeat' with_reducible first|refine(BD _ _).trans ?_|refine(BI _ _).trans ?_|refine(AO _ _).trans ?_|((first|(refine' (AA ?_ _).trans ?_;rotate_left)|refine(if_pos ?_).trans ?_|refine(Af ?_ _ _).trans ?_);focus (first|rfl|(simp(disch:=first|assumption|omega|with_reducible rfl|(simp only[go_sem]<;>omega)|fail) only[↓reduceIte,↓AO,Nat.reduceAdd,go_sem,Bool.not_true,Bool.not_false,hA,nt,lL,g1]<;>first|rfl|omega)|assumption|omega))|(refine(Aa ?_ _ _).trans ?_;focus (first|(simp(disch:=first|assumption|omega|with_reducible rfl|(simp only[go_sem]<;>omega)|fail) only[↓reduceIte,↓AO,Nat.reduceAdd,go_sem,Bool.not_true,Bool.not_false,hA,nt,lL,g1]<;>omega)|assumption|omega))|fail)
  rfl
 have g1:AQ .gtr (.int .i64 (D.length:Int)) (.int .i64 100)=some (.bool false):=by rw[b_gtr,decide_eq_false (by omega)]
 by_cases c2:100<k
 ·have g2:AQ .gtr (.int .i64 k) (.int .i64 100)=some (.bool true):=by rw[b_gtr,decide_eq_true c2]
  rw[VU,wk]
  generalize vU .sh D=L at*
  (repeat' with_reducible first|refine(BD _ _).trans ?_|refine(BI _ _).trans ?_|refine(AO _ _).trans ?_|((first|(refine' (AA ?_ _).trans ?_;rotate_left)|refine(if_pos ?_).trans ?_|refine(Af ?_ _ _).trans ?_);focus (first|rfl|(simp(disch:=first|assumption|omega|with_reducible rfl|(simp only[go_sem]<;>omega)|fail) only[↓reduceIte,↓AO,Nat.reduceAdd,go_sem,Bool.not_true,Bool.not_false,hA,nt,lL,g1,g2]<;>first|rfl|omega)|assumption|omega))|(refine(Aa ?_ _ _).trans ?_;focus (first|(simp(disch:=first|assumption|omega|with_reducible rfl|(simp only[go_sem]<;>omega)|fail) only[↓reduceIte,↓AO,Nat.reduceAdd,go_sem,Bool.not_true,Bool.not_false,hA,nt,lL,g1,g2]<;>omega)|assumption|omega))|fail)
  rfl
 have g2:AQ .gtr (.int .i64 k) (.int .i64 100)=some (.bool false):=by rw[b_gtr,decide_eq_false c2]
 have cp:=fun h=>cpU (D:=D) (by omega) h .sh (.inl rfl)
 have pa:=UH (n:=n) (k:=k) hD (by omega) (by omega)
 have pr:=Qe (n:=n) (k:=k) hD (by omega) (by omega) .sh
 have rw_:=YZ (l:=GH n k D) (by have:=WW n k D;omega)
 have r1:∀h,AP h [.int .i64 n,.int .i64 k,vU .own D]=[.int .i64 n,.int .i64 k,vU .sh D]:=fun _=>rfl
 have r2:∀h,AP h [.int .i64 n,.int .i64 k,vU .sh D]=[.int .i64 n,.int .i64 k,vU .sh D]:=fun _=>rfl
 have r3:∀h,AP h [Eo (GH n k D),Eo (GH n k D)]=[Eo (GH n k D),Eo (GH n k D)]:=fun _=>rfl
 rw[VU,wk]
 generalize Eo (GH n k D)=PL at*
 generalize vU .own D=L2 at*
 generalize vU .sh D=L at*
 (repeat' with_reducible first|refine(BD _ _).trans ?_|refine(BI _ _).trans ?_|refine(AO _ _).trans ?_|((first|(refine' (AA ?_ _).trans ?_;rotate_left)|refine(if_pos ?_).trans ?_|refine(Af ?_ _ _).trans ?_);focus (first|rfl|(simp(disch:=first|assumption|omega|with_reducible rfl|(simp only[go_sem]<;>omega)|fail) only[↓reduceIte,↓AO,Nat.reduceAdd,go_sem,Bool.not_true,Bool.not_false,hA,nt,lL,g1,g2,cp,r1,pa,r2,pr,r3,rw_]<;>first|rfl|omega)|assumption|omega))|(refine(Aa ?_ _ _).trans ?_;focus (first|(simp(disch:=first|assumption|omega|with_reducible rfl|(simp only[go_sem]<;>omega)|fail) only[↓reduceIte,↓AO,Nat.reduceAdd,go_sem,Bool.not_true,Bool.not_false,hA,nt,lL,g1,g2,cp,r1,pa,r2,pr,r3,rw_]<;>omega)|assumption|omega))|fail)
 rfl
end
end Go.Proofs.YtkelgdjhpgefnaaGreatDoor
