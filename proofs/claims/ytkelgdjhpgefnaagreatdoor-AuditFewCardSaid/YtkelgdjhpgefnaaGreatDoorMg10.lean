/-
  Part of the proof of a statement about the given program: an abstract machine over its code, the simulation, its functions' equations, what they compute.
-/
import Derived.Test.YtkelgdjhpgefnaaGreatDoorMg3
import Derived.Test.YtkelgdjhpgefnaaGreatDoorMg5
import Derived.Test.YtkelgdjhpgefnaaGreatDoorMg7
import Derived.Test.YtkelgdjhpgefnaaGreatDoorMg9
set_option linter.unusedVariables false
set_option linter.unusedSimpArgs false
set_option linter.unusedSectionVars false
set_option maxRecDepth 100000
noncomputable section
namespace Go.Proofs.YtkelgdjhpgefnaaGreatDoor
section
open Go AM
def vU (f:Fl) (l:List Nat):V:= .lst 58 f (l.map fun(d:Nat)=> .int .u32 (d:Int))
def drw (n:Nat) (D:List Nat) (at_ i:Nat):Bool:=decide (D.getD i 0%n=at_)
def PS (n:Nat) (D:List Nat) (at_:Nat):Nat→Nat→Bool
 |0,_=>false
 |m+1,i=>drw n D at_ i||PS n D at_ m (i+1)
def EM (n:Nat) (k:Int) (D:List Nat) (at_:Nat):Bool:=decide (k<0∨(n:Int)≤k)||PS n D at_ k.toNat 0
def Eb (n:Int) (k:Int) (D:List Nat):List Nat:=if 1≤n∧n≤64 then(List.range n.toNat).filter (EM n.toNat k D)else[]
theorem YG {D:List Nat} {i:Nat} (h:i<D.length):D.getD i 0=D[i]:=by simp[List.getD,h]
theorem YH {D:List Nat} {i:Nat} (h:D.length≤i):D.getD i 0=0:=by simp[List.getD,h]
section
variable {n:Nat} {D:List Nat}
theorem Vg (h1:1≤n) (hn:n≤64) (hD:∀d∈D,d<4294967296) (hl:D.length≤1000000) {k:Nat} (hk:k<1000000) {at_:Nat} (ha:at_<64):∀(m i:Nat),i+m=k→
 NJ (.int .i64 (at_:Int)) (.ref 0 [] 3) (.ref 2 [] 22) (.int .i64 (k:Int)) (.int .i64 (i:Int)) 3 [.int .i64 (n:Int),.int .i64 (k:Int),vU .sh D]=some (.bool (PS n D at_ m i),[.int .i64 (n:Int),.int .i64 (k:Int),vU .sh D]):=by
 intro m
 have l3:∀x:List V,GH [.int .i64 (n:Int),.int .i64 (k:Int),.lst 58 .sh x] 22 (.ref 2 [] 22)=some (.lst 58 .sh x):=fun x=>rfl
 have l0:∀x:V,BI [.int .i64 (n:Int),.int .i64 (k:Int),x] 3 (.ref 0 [] 3)=some (.int .i64 (n:Int)):=fun x=>rfl
 induction m with
 |zero=>
  intro i hi
  have ls:AO .lss (.int .i64 (i:Int)) (.int .i64 (k:Int))=some (.bool false):=by rw[b_lss,decide_eq_false (by omega)]
  rw[PS,ES]
  (repeat' with_reducible first|refine(Bc _ _).trans ?_|refine(Bo _ _).trans ?_|refine(AV _ _).trans ?_|((first|(refine' (AB ?_ _).trans ?_;rotate_left)|refine(if_pos ?_).trans ?_|refine(Az ?_ _ _).trans ?_);focus (first|rfl|(simp(disch:=first|assumption|omega|with_reducible rfl|(simp only[go_sem]<;>omega)|fail) only[↓reduceIte,↓AV,Nat.reduceAdd,go_sem,Bool.not_true,Bool.not_false,ls]<;>first|rfl|omega)|assumption|omega))|(refine(Ak ?_ _ _).trans ?_;focus (first|(simp(disch:=first|assumption|omega|with_reducible rfl|(simp only[go_sem]<;>omega)|fail) only[↓reduceIte,↓AV,Nat.reduceAdd,go_sem,Bool.not_true,Bool.not_false,ls]<;>omega)|assumption|omega))|fail)
  rfl
 |succ m ih=>
  intro i hi
  have ls:AO .lss (.int .i64 (i:Int)) (.int .i64 (k:Int))=some (.bool true):=by rw[b_lss,decide_eq_true (by omega)]
  have ln:VG (vU .sh D)=some (.int .i64 (D.length:Int)):=by show some _=_;rw[List.length_map]
  have cn:VH .u32 (.int .i64 (n:Int))=some (.int .u32 (n:Int)):=by rw[VH,wrap_u32 (by omega) (by omega)]
  have rm:∀d:Nat,AO .rem (.int .u32 (d:Int)) (.int .u32 (n:Int))=some (.int .u32 ((d%n:Nat):Int)):=fun d=>ADR (by omega) _
  have ci:∀d:Nat,VH .i64 (.int .u32 ((d%n:Nat):Int))=some (.int .i64 ((d%n:Nat):Int)):=fun d=>by
   have:=Nat.mod_lt d h1
   exact cvI_i64 (by omega) (by omega)
  have eq:∀d:Nat,AO .eql (.int .i64 ((d%n:Nat):Int)) (.int .i64 (at_:Int))=some (.bool (decide (d%n=at_))):=fun d=>by
   rw[b_eql]
   congr 2
   exact decide_eq_decide.2 (by omega)
  have ad:AO .add (.int .i64 (i:Int)) (.int .i64 1)=some (.int .i64 ((i+1:Nat):Int)):=by rw[Ey,wrap_i64 (by omega) (by omega)];rfl
  have ih':=ih (i+1) (by omega)
  rw[PS]
  by_cases h:i<D.length
  ·have l2:AO .lss (.int .i64 (i:Int)) (.int .i64 ((D.map fun(d:Nat)=>V.int .u32 (d:Int)).length:Int))=some (.bool true):=by rw[b_lss,List.length_map,decide_eq_true (by omega)]
   have ix:(vU .sh D)=(vU .sh D):=rfl
   have ix:Tm 58 (vU .sh D) (.int .i64 (i:Int))=some (.rop 58 (.int .u32 (D[i]:Int))):=by
    rw[vU,Lm,List.getElem?_map,List.getElem?_eq_getElem h];rfl
   have ld:∀(h:List V) (x:V),BI h 58 (.rop 58 x)=some x:=fun h x=>by simp only[BI,if_true]
   have dg:drw n D at_ i=decide (D[i]%n=at_):=by rw[drw,YG h]
   rw[dg]
   unfold vU at*
   generalize D[i]=d at*
   cases hq:decide (d%n=at_)with
   |true=>
    have eq':=eq d
    rw[hq]at eq'
    rw[ES]
    clear ih ih' hD dg eq
    generalize (D.map fun(d:Nat)=>V.int .u32 (d:Int))=L at*
    (repeat' with_reducible first|refine(Bc _ _).trans ?_|refine(Bo _ _).trans ?_|refine(AV _ _).trans ?_|((first|(refine' (AB ?_ _).trans ?_;rotate_left)|refine(if_pos ?_).trans ?_|refine(Az ?_ _ _).trans ?_);focus (first|rfl|(simp(disch:=first|assumption|omega|with_reducible rfl|(simp only[go_sem]<;>omega)|fail) only[↓reduceIte,↓AV,Nat.reduceAdd,go_sem,Bool.not_true,Bool.not_false,ls,l3,l2,ix,ld,l0,cn,rm,ci,eq']<;>first|rfl|omega)|assumption|omega))|(refine(Ak ?_ _ _).trans ?_;focus (first|(simp(disch:=first|assumption|omega|with_reducible rfl|(simp only[go_sem]<;>omega)|fail) only[↓reduceIte,↓AV,Nat.reduceAdd,go_sem,Bool.not_true,Bool.not_false,ls,l3,l2,ix,ld,l0,cn,rm,ci,eq']<;>omega)|assumption|omega))|fail)
    rfl
   |false=>
    have eq':=eq d
    rw[hq]at eq'
    rw[Bool.false_or,←ih',ES]
    clear ih ih' hD dg eq
    generalize (D.map fun(d:Nat)=>V.int .u32 (d:Int))=L at*
    generalize (i+1:Nat)=i2 at*
    (repeat' with_reducible first|refine(Bc _ _).trans ?_|refine(Bo _ _).trans ?_|refine(AV _ _).trans ?_|((first|(refine' (AB ?_ _).trans ?_;rotate_left)|refine(if_pos ?_).trans ?_|refine(Az ?_ _ _).trans ?_);focus (first|rfl|(simp(disch:=first|assumption|omega|with_reducible rfl|(simp only[go_sem]<;>omega)|fail) only[↓reduceIte,↓AV,Nat.reduceAdd,go_sem,Bool.not_true,Bool.not_false,ls,l3,l2,ix,ld,l0,cn,rm,ci,eq',ad]<;>first|rfl|omega)|assumption|omega))|(refine(Ak ?_ _ _).trans ?_;focus (first|(simp(disch:=first|assumption|omega|with_reducible rfl|(simp only[go_sem]<;>omega)|fail) only[↓reduceIte,↓AV,Nat.reduceAdd,go_sem,Bool.not_true,Bool.not_false,ls,l3,l2,ix,ld,l0,cn,rm,ci,eq',ad]<;>omega)|assumption|omega))|fail)
    rfl
  ·have l2:AO .lss (.int .i64 (i:Int)) (.int .i64 ((D.map fun(d:Nat)=>V.int .u32 (d:Int)).length:Int))=some (.bool false):=by rw[b_lss,List.length_map,decide_eq_false (by omega)]
   have dg:drw n D at_ i=decide (0%n=at_):=by rw[drw,YH (by omega)]
   rw[dg]
   unfold vU at*
   have z0:(V.int .u32 0)= .int .u32 ((0:Nat):Int):=rfl
   have rm0:=rm 0
   have ci0:=ci 0
   have eq0:=eq 0
   rw[show((0:Nat):Int)=0 from rfl]at rm0
   cases hq:decide (0%n=at_)with
   |true=>
    rw[hq]at eq0
    rw[ES]
    clear ih ih' hD dg eq rm ci
    generalize (D.map fun(d:Nat)=>V.int .u32 (d:Int))=L at*
    generalize (0%n:Nat)=z at*
    (repeat' with_reducible first|refine(Bc _ _).trans ?_|refine(Bo _ _).trans ?_|refine(AV _ _).trans ?_|((first|(refine' (AB ?_ _).trans ?_;rotate_left)|refine(if_pos ?_).trans ?_|refine(Az ?_ _ _).trans ?_);focus (first|rfl|(simp(disch:=first|assumption|omega|with_reducible rfl|(simp only[go_sem]<;>omega)|fail) only[↓reduceIte,↓AV,Nat.reduceAdd,go_sem,Bool.not_true,Bool.not_false,ls,l3,l2,l0,cn,rm0,ci0,eq0]<;>first|rfl|omega)|assumption|omega))|(refine(Ak ?_ _ _).trans ?_;focus (first|(simp(disch:=first|assumption|omega|with_reducible rfl|(simp only[go_sem]<;>omega)|fail) only[↓reduceIte,↓AV,Nat.reduceAdd,go_sem,Bool.not_true,Bool.not_false,ls,l3,l2,l0,cn,rm0,ci0,eq0]<;>omega)|assumption|omega))|fail)
    rfl
   |false=>
    rw[hq]at eq0
    rw[Bool.false_or,←ih',ES]
    clear ih ih' hD dg eq rm ci
    generalize (D.map fun(d:Nat)=>V.int .u32 (d:Int))=L at*
    generalize (0%n:Nat)=z at*
    generalize (i+1:Nat)=i2 at*
    (repeat' with_reducible first|refine(Bc _ _).trans ?_|refine(Bo _ _).trans ?_|refine(AV _ _).trans ?_|((first|(refine' (AB ?_ _).trans ?_;rotate_left)|refine(if_pos ?_).trans ?_|refine(Az ?_ _ _).trans ?_);focus (first|rfl|(simp(disch:=first|assumption|omega|with_reducible rfl|(simp only[go_sem]<;>omega)|fail) only[↓reduceIte,↓AV,Nat.reduceAdd,go_sem,Bool.not_true,Bool.not_false,ls,l3,l2,l0,cn,rm0,ci0,eq0,ad]<;>first|rfl|omega)|assumption|omega))|(refine(Ak ?_ _ _).trans ?_;focus (first|(simp(disch:=first|assumption|omega|with_reducible rfl|(simp only[go_sem]<;>omega)|fail) only[↓reduceIte,↓AV,Nat.reduceAdd,go_sem,Bool.not_true,Bool.not_false,ls,l3,l2,l0,cn,rm0,ci0,eq0,ad]<;>omega)|assumption|omega))|fail)
    rfl
theorem Vh (h1:1≤n) (hn:n≤64) (hD:∀d∈D,d<4294967296) (hl:D.length≤1000000) {k:Int} (hk:k<1000000) {at_:Nat} (ha:at_<64):
 Cl 16 [.int .i64 (at_:Int),.ref 1 [] 3,.ref 0 [] 3,.ref 2 [] 22] [.int .i64 (n:Int),.int .i64 k,vU .sh D]=some (.bool (EM n k D at_),[.int .i64 (n:Int),.int .i64 k,vU .sh D]):=by
 have l1:∀x:V,BI [.int .i64 (n:Int),.int .i64 k,x] 3 (.ref 1 [] 3)=some (.int .i64 k):=fun x=>rfl
 have l0:∀x:V,BI [.int .i64 (n:Int),.int .i64 k,x] 3 (.ref 0 [] 3)=some (.int .i64 (n:Int)):=fun x=>rfl
 by_cases c1:k<0
 ·have a1:AO .lss (.int .i64 k) (.int .i64 0)=some (.bool true):=by rw[b_lss,decide_eq_true c1]
  rw[EM,decide_eq_true (.inl c1),Bool.true_or,QY]
  generalize vU .sh D=L at*
  (repeat' with_reducible first|refine(Bc _ _).trans ?_|refine(Bo _ _).trans ?_|refine(AV _ _).trans ?_|((first|(refine' (AB ?_ _).trans ?_;rotate_left)|refine(if_pos ?_).trans ?_|refine(Az ?_ _ _).trans ?_);focus (first|rfl|(simp(disch:=first|assumption|omega|with_reducible rfl|(simp only[go_sem]<;>omega)|fail) only[↓reduceIte,↓AV,Nat.reduceAdd,go_sem,Bool.not_true,Bool.not_false,l1,a1]<;>first|rfl|omega)|assumption|omega))|(refine(Ak ?_ _ _).trans ?_;focus (first|(simp(disch:=first|assumption|omega|with_reducible rfl|(simp only[go_sem]<;>omega)|fail) only[↓reduceIte,↓AV,Nat.reduceAdd,go_sem,Bool.not_true,Bool.not_false,l1,a1]<;>omega)|assumption|omega))|fail)
  rfl
 have a1:AO .lss (.int .i64 k) (.int .i64 0)=some (.bool false):=by rw[b_lss,decide_eq_false c1]
 by_cases c2:(n:Int)≤k
 ·have a2:AO .geq (.int .i64 k) (.int .i64 (n:Int))=some (.bool true):=by rw[b_geq,decide_eq_true c2]
  rw[EM,decide_eq_true (.inr c2),Bool.true_or,QY]
  generalize vU .sh D=L at*
  (repeat' with_reducible first|refine(Bc _ _).trans ?_|refine(Bo _ _).trans ?_|refine(AV _ _).trans ?_|((first|(refine' (AB ?_ _).trans ?_;rotate_left)|refine(if_pos ?_).trans ?_|refine(Az ?_ _ _).trans ?_);focus (first|rfl|(simp(disch:=first|assumption|omega|with_reducible rfl|(simp only[go_sem]<;>omega)|fail) only[↓reduceIte,↓AV,Nat.reduceAdd,go_sem,Bool.not_true,Bool.not_false,l1,a1,l0,a2]<;>first|rfl|omega)|assumption|omega))|(refine(Ak ?_ _ _).trans ?_;focus (first|(simp(disch:=first|assumption|omega|with_reducible rfl|(simp only[go_sem]<;>omega)|fail) only[↓reduceIte,↓AV,Nat.reduceAdd,go_sem,Bool.not_true,Bool.not_false,l1,a1,l0,a2]<;>omega)|assumption|omega))|fail)
  rfl
 have a2:AO .geq (.int .i64 k) (.int .i64 (n:Int))=some (.bool false):=by rw[b_geq,decide_eq_false c2]
 obtain⟨q,rfl⟩:=Int.eq_ofNat_of_zero_le (show 0≤k by omega)
 have lp:=Vg (D:=D) h1 hn hD hl (k:=q) (by omega) ha q 0 (by omega)
 rw[EM,decide_eq_false (by omega),Bool.false_or,Int.toNat_natCast,←lp,QY]
 clear lp
 generalize vU .sh D=L at*
 (repeat' with_reducible first|refine(Bc _ _).trans ?_|refine(Bo _ _).trans ?_|refine(AV _ _).trans ?_|((first|(refine' (AB ?_ _).trans ?_;rotate_left)|refine(if_pos ?_).trans ?_|refine(Az ?_ _ _).trans ?_);focus (first|rfl|(simp(disch:=first|assumption|omega|with_reducible rfl|(simp only[go_sem]<;>omega)|fail) only[↓reduceIte,↓AV,Nat.reduceAdd,go_sem,Bool.not_true,Bool.not_false,l1,a1,l0,a2]<;>first|rfl|omega)|assumption|omega))|(refine(Ak ?_ _ _).trans ?_;focus (first|(simp(disch:=first|assumption|omega|with_reducible rfl|(simp only[go_sem]<;>omega)|fail) only[↓reduceIte,↓AV,Nat.reduceAdd,go_sem,Bool.not_true,Bool.not_false,l1,a1,l0,a2]<;>omega)|assumption|omega))|fail)
 rfl
theorem Tz (h1:1≤n) (hn:n≤64) (hD:∀d∈D,d<4294967296) (hl:D.length≤1000000) {k:Int} (hk:k<1000000):∀(m i:Nat) (acc:List Nat) (f:Fl),i+m=n→acc.length≤i→(f= .own∨f= .nil∧acc=[])→
 ∃f':Fl,(f'= .own∨f'= .nil)∧OT (.clo 16 [.ref 1 [] 3,.ref 0 [] 3,.ref 2 [] 22]) (.lst 3 f (acc.map fun(a:Nat)=> .int .i64 (a:Int))) (.int .i64 (n:Int)) (.int .i64 (i:Int)) [.int .i64 (n:Int),.int .i64 k,vU .sh D]=
  Bh 0 [.int .i64 (n:Int),.int .i64 k,vU .sh D] (.lst 3 f' ((acc++((List.range n).drop i).filter (EM n k D)).map fun(a:Nat)=> .int .i64 (a:Int))):=by
 intro m
 induction m with
 |zero=>
  intro i acc f hi hacc hf
  have ls:AO .lss (.int .i64 (i:Int)) (.int .i64 (n:Int))=some (.bool false):=by rw[b_lss,decide_eq_false (by omega)]
  refine⟨f,by rcases hf with rfl|⟨rfl,_⟩<;>simp,?_⟩
  rw[List.drop_eq_nil_of_le (by simp;omega),List.filter_nil,List.append_nil,Ji]
  generalize (acc.map fun(a:Nat)=>V.int .i64 (a:Int))=A at*
  generalize vU .sh D=L at*
  (repeat' with_reducible first|refine(Bc _ _).trans ?_|refine(Bo _ _).trans ?_|refine(AV _ _).trans ?_|((first|(refine' (AB ?_ _).trans ?_;rotate_left)|refine(if_pos ?_).trans ?_|refine(Az ?_ _ _).trans ?_);focus (first|rfl|(simp(disch:=first|assumption|omega|with_reducible rfl|(simp only[go_sem]<;>omega)|fail) only[↓reduceIte,↓AV,Nat.reduceAdd,go_sem,Bool.not_true,Bool.not_false,ls]<;>first|rfl|omega)|assumption|omega))|(refine(Ak ?_ _ _).trans ?_;focus (first|(simp(disch:=first|assumption|omega|with_reducible rfl|(simp only[go_sem]<;>omega)|fail) only[↓reduceIte,↓AV,Nat.reduceAdd,go_sem,Bool.not_true,Bool.not_false,ls]<;>omega)|assumption|omega))|fail)
  rfl
 |succ m ih=>
  intro i acc f hi hacc hf
  have ls:AO .lss (.int .i64 (i:Int)) (.int .i64 (n:Int))=some (.bool true):=by rw[b_lss,decide_eq_true (by omega)]
  have asq:=Vh (k:=k) h1 hn hD hl hk (at_:=i) (by omega)
  have cv:∀K:V→List V→Rv,CX P EQ W (.clo 16 [.ref 1 [] 3,.ref 0 [] 3,.ref 2 [] 22]) [.int .i64 (i:Int)] [.int .i64 (n:Int),.int .i64 k,vU .sh D] K=K (.bool (EM n k D i)) [.int .i64 (n:Int),.int .i64 k,vU .sh D]:=fun K=>
   (VU K (by kernel_rfl) (by kernel_rfl)).trans (AB asq _)
  have ad:AO .add (.int .i64 (i:Int)) (.int .i64 1)=some (.int .i64 ((i+1:Nat):Int)):=by rw[Ey,wrap_i64 (by omega) (by omega)];rfl
  have dr:(List.range n).drop i=i::(List.range n).drop (i+1):=by
   rw[List.drop_eq_getElem_cons (by simp;omega)];simp
  rw[dr]
  cases hq:EM n k D i with
  |true=>
   rw[hq]at cv
   obtain⟨f',hf',ih'⟩:=ih (i+1) (acc++[i]) .own (by omega) (by simp;omega) (.inl rfl)
   refine⟨f',hf',?_⟩
   have ap:∀h:List V,VI 3 (tyI .i64) false h (.lst 3 f (acc.map fun(a:Nat)=> .int .i64 (a:Int))) (.lst 3 .own [.int .i64 (i:Int)])=some (.lst 3 .own ((acc++[i]).map fun(a:Nat)=> .int .i64 (a:Int))):=fun h=>by
    have cl:AL [V.int .i64 (i:Int)]=true:=rfl
    have ty:[V.int .i64 (i:Int)].all (tyI .i64)=true:=rfl
    rw[List.map_append]
    rcases hf with rfl|⟨rfl,rfl⟩
    ·rw[RS cl ty (by simp;omega)];rfl
    ·rw[List.map_nil,VJ cl ty (by simp)];rfl
   rw[List.filter_cons_of_pos hq,show acc++i::((List.range n).drop (i+1)).filter (EM n k D)=acc++[i]++((List.range n).drop (i+1)).filter (EM n k D)by simp,←ih',Ji]
   clear ih ih' hD asq
   generalize ((acc++[i]).map fun(a:Nat)=>V.int .i64 (a:Int))=A2 at*
   generalize (acc.map fun(a:Nat)=>V.int .i64 (a:Int))=A at*
   generalize vU .sh D=L at*
   generalize (i+1:Nat)=i2 at*
   refine(AB ls _).trans ?_
   refine(Bc _ _).trans ?_
   refine(cv _).trans ?_
   (repeat' with_reducible first|refine(Bc _ _).trans ?_|refine(Bo _ _).trans ?_|refine(AV _ _).trans ?_|((first|(refine' (AB ?_ _).trans ?_;rotate_left)|refine(if_pos ?_).trans ?_|refine(Az ?_ _ _).trans ?_);focus (first|rfl|(simp(disch:=first|assumption|omega|with_reducible rfl|(simp only[go_sem]<;>omega)|fail) only[↓reduceIte,↓AV,Nat.reduceAdd,go_sem,Bool.not_true,Bool.not_false,ap,ad]<;>first|rfl|omega)|assumption|omega))|(refine(Ak ?_ _ _).trans ?_;focus (first|(simp(disch:=first|assumption|omega|with_reducible rfl|(simp only[go_sem]<;>omega)|fail) only[↓reduceIte,↓AV,Nat.reduceAdd,go_sem,Bool.not_true,Bool.not_false,ap,ad]<;>omega)|assumption|omega))|fail)
   rfl
  |false=>
   rw[hq]at cv
   obtain⟨f',hf',ih'⟩:=ih (i+1) acc f (by omega) (by omega) hf
   refine⟨f',hf',?_⟩
   rw[List.filter_cons_of_neg (by simp[hq]),←ih',Ji]
   clear ih ih' hD asq
   generalize (acc.map fun(a:Nat)=>V.int .i64 (a:Int))=A at*
   generalize vU .sh D=L at*
   generalize (i+1:Nat)=i2 at*
   refine(AB ls _).trans ?_
   refine(Bc _ _).trans ?_
   refine(cv _).trans ?_
   (repeat' with_reducible first|refine(Bc _ _).trans ?_|refine(Bo _ _).trans ?_|refine(AV _ _).trans ?_|((first|(refine' (AB ?_ _).trans ?_;rotate_left)|refine(if_pos ?_).trans ?_|refine(Az ?_ _ _).trans ?_);focus (first|rfl|(simp(disch:=first|assumption|omega|with_reducible rfl|(simp only[go_sem]<;>omega)|fail) only[↓reduceIte,↓AV,Nat.reduceAdd,go_sem,Bool.not_true,Bool.not_false,ad]<;>first|rfl|omega)|assumption|omega))|(refine(Ak ?_ _ _).trans ?_;focus (first|(simp(disch:=first|assumption|omega|with_reducible rfl|(simp only[go_sem]<;>omega)|fail) only[↓reduceIte,↓AV,Nat.reduceAdd,go_sem,Bool.not_true,Bool.not_false,ad]<;>omega)|assumption|omega))|fail)
   rfl
end
abbrev Na (l:List Nat):V:= .lst 3 .sh (l.map fun(a:Nat)=> .int .i64 (a:Int))
theorem YI (l:List Nat):LP (l.map fun(a:Nat)=>V.int .i64 (a:Int))=true:=RQ (fun _=>rfl) l
theorem UA {n k:Int} {D:List Nat} (hD:∀d∈D,d<4294967296) (hl:D.length≤1000000) (hk:k<1000000):
 Cl 7 [.int .i64 n,.int .i64 k,vU .sh D] []=some (Na (Eb n k D),[]):=by
 have wk:(vU .sh D).weak=vU .sh D:=rfl
 have t0:∀m:Nat,((AM.tyI .i64) (.int .i64 n)&&V.under m (.int .i64 n))=true:=fun _=>rfl
 have t1:∀m:Nat,((AM.tyI .i64) (.int .i64 k)&&V.under m (.int .i64 k))=true:=fun _=>rfl
 have t2:((AM.tyL 58) (vU .sh D)&&V.under 2 (vU .sh D))=true:=rfl
 have l0:∀x:V,BI [.int .i64 n,.int .i64 k,x] 3 (.ref 0 [] 3)=some (.int .i64 n):=fun x=>rfl
 by_cases c1:n<1
 ·have a1:AO .lss (.int .i64 n) (.int .i64 1)=some (.bool true):=by rw[b_lss,decide_eq_true c1]
  rw[Eb,if_neg (by omega),VN,wk]
  generalize vU .sh D=L at*
  rw[if_pos (t0 0),if_pos (t1 1),if_pos t2]
  (repeat' with_reducible first|refine(Bc _ _).trans ?_|refine(Bo _ _).trans ?_|refine(AV _ _).trans ?_|((first|(refine' (AB ?_ _).trans ?_;rotate_left)|refine(if_pos ?_).trans ?_|refine(Az ?_ _ _).trans ?_);focus (first|rfl|(simp(disch:=first|assumption|omega|with_reducible rfl|(simp only[go_sem]<;>omega)|fail) only[↓reduceIte,↓AV,Nat.reduceAdd,go_sem,Bool.not_true,Bool.not_false,l0,a1]<;>first|rfl|omega)|assumption|omega))|(refine(Ak ?_ _ _).trans ?_;focus (first|(simp(disch:=first|assumption|omega|with_reducible rfl|(simp only[go_sem]<;>omega)|fail) only[↓reduceIte,↓AV,Nat.reduceAdd,go_sem,Bool.not_true,Bool.not_false,l0,a1]<;>omega)|assumption|omega))|fail)
  rfl
 have a1:AO .lss (.int .i64 n) (.int .i64 1)=some (.bool false):=by rw[b_lss,decide_eq_false c1]
 by_cases c2:64<n
 ·have a2:AO .gtr (.int .i64 n) (.int .i64 64)=some (.bool true):=by rw[b_gtr,decide_eq_true c2]
  rw[Eb,if_neg (by omega),VN,wk]
  generalize vU .sh D=L at*
  rw[if_pos (t0 0),if_pos (t1 1),if_pos t2]
  (repeat' with_reducible first|refine(Bc _ _).trans ?_|refine(Bo _ _).trans ?_|refine(AV _ _).trans ?_|((first|(refine' (AB ?_ _).trans ?_;rotate_left)|refine(if_pos ?_).trans ?_|refine(Az ?_ _ _).trans ?_);focus (first|rfl|(simp(disch:=first|assumption|omega|with_reducible rfl|(simp only[go_sem]<;>omega)|fail) only[↓reduceIte,↓AV,Nat.reduceAdd,go_sem,Bool.not_true,Bool.not_false,l0,a1,a2]<;>first|rfl|omega)|assumption|omega))|(refine(Ak ?_ _ _).trans ?_;focus (first|(simp(disch:=first|assumption|omega|with_reducible rfl|(simp only[go_sem]<;>omega)|fail) only[↓reduceIte,↓AV,Nat.reduceAdd,go_sem,Bool.not_true,Bool.not_false,l0,a1,a2]<;>omega)|assumption|omega))|fail)
  rfl
 have a2:AO .gtr (.int .i64 n) (.int .i64 64)=some (.bool false):=by rw[b_gtr,decide_eq_false c2]
 rw[Eb,if_pos (by omega)]
 obtain⟨q,rfl⟩:=Int.eq_ofNat_of_zero_le (show 0≤n by omega)
 obtain⟨f',hf',lp⟩:=Tz (n:=q) (D:=D) (k:=k) (by omega) (by omega) hD hl hk q 0 [] .nil (by omega) (Nat.le_refl 0) (.inr ⟨rfl,rfl⟩)
 rw[List.drop_zero,List.nil_append,List.map_nil]at lp
 have pl:=YI ((List.range q).filter (EM q k D))
 have fn:Bh 0 [.int .i64 (q:Int),.int .i64 k,vU .sh D] (.lst 3 f' (((List.range q).filter (EM q k D)).map fun(a:Nat)=>V.int .i64 (a:Int)))=some (Na ((List.range q).filter (EM q k D)),[]):=by
  rcases hf' with rfl|rfl<;>rfl
 rw[Int.toNat_natCast,←fn,←lp,VN,wk]
 clear lp fn
 generalize vU .sh D=L at*
 rw[if_pos (t0 0),if_pos (t1 1),if_pos t2]
 (repeat' with_reducible first|refine(Bc _ _).trans ?_|refine(Bo _ _).trans ?_|refine(AV _ _).trans ?_|((first|(refine' (AB ?_ _).trans ?_;rotate_left)|refine(if_pos ?_).trans ?_|refine(Az ?_ _ _).trans ?_);focus (first|rfl|(simp(disch:=first|assumption|omega|with_reducible rfl|(simp only[go_sem]<;>omega)|fail) only[↓reduceIte,↓AV,Nat.reduceAdd,go_sem,Bool.not_true,Bool.not_false,l0,a1,a2]<;>first|rfl|omega)|assumption|omega))|(refine(Ak ?_ _ _).trans ?_;focus (first|(simp(disch:=first|assumption|omega|with_reducible rfl|(simp only[go_sem]<;>omega)|fail) only[↓reduceIte,↓AV,Nat.reduceAdd,go_sem,Bool.not_true,Bool.not_false,l0,a1,a2]<;>omega)|assumption|omega))|fail)
 rfl
end
section
open Go AM
section
variable {n:Nat} {D:List Nat}
end
end
section
open Go AM
section
variable {B:Type} {s e u:TypeId} {f:Fl} {xs:List V} {h:List V}
theorem HY:∃g,V.weak (.lst e f xs)= .lst e g xs:=by cases f<;>exact⟨_,rfl⟩
theorem AAI (hu:P.underlying s=some (.slice u)) (K:V→Option B):(lenV P s (.lst e f xs)).bind K=K (.int .i64 (xs.length:Int)):=by
 simp[lenV,hu]
theorem Vj (hu:P.underlying s=some (.slice u)) (K:V→Option B):(lenV P s (V.weak (.lst e f xs))).bind K=K (.int .i64 (xs.length:Int)):=by
 obtain⟨g,hg⟩:=HY (e:=e) (f:=f) (xs:=xs);rw[hg];exact AAI hu K
theorem AAJ (hk:K P s= .slice e) {i:Nat} {v:V} (hv:xs[i]?=some v) (K:V→Option B):
 (AZ P s (.lst e f xs) (.int .i64 (i:Int))).bind K=K (.rop e v):=by
 have hi:=VT hv
 have:inside (i:Int) xs.length=true:=by simp[inside,hi]
 simp[AZ,hk,this,hv]
theorem ABw (hk:K P s= .slice e) {i:Nat} {v:V} (hv:xs[i]?=some v) (K:V→Option B):
 (AZ P s (V.weak (.lst e f xs)) (.int .i64 (i:Int))).bind K=K (.rop e v):=by
 obtain⟨g,hg⟩:=HY (e:=e) (f:=f) (xs:=xs);rw[hg];exact AAJ hk hv K
theorem YJ {v:V} (K:V→Option B):(GH h e (.rop e v)).bind K=K v.weak:=by rw[GH,JS];rfl
theorem ADv (hk:K P s= .slice e) (hf:f= .own∨f= .nil) {y:V} {ys:List V} (hy:Aj h y=some ys) (hc:AL ys=true) (ht:JZ P e ys=true) (hl:xs.length+ys.length≤2147483648) (hn:BF P depth e=false) (hne:f= .nil→ys.isEmpty=false:=by first|(intro h;cases h;done)|(intro _;rfl)):
 Ea P s h (.lst e f xs) y=some (.lst e .own (xs++ys)):=by
 rcases hf with rfl|rfl
 ·simp[Ea,hk,hy,hc,ht,hl,DF,CU,hn]
 ·have:=hne rfl
  cases ys with
  |nil=>cases this
  |cons y0 ys0=>simp[Ea,hk,hy,hc,ht,hl,DF,CU,hn]<;>exact decide_eq_true (by simpa using hl)
theorem ABx (hk:K P s= .slice e) {v:V} (ht:CO P e v=true) (hc:v.clean=true) (hn:BF P depth e=false) (hz:∃z,zero P e=z):
 JD P s 1 [(0,v)]=some (.lst e .own [v]):=by
 simp[JD,hk,Ci,ht,List.replicate,cp,hn,AL,hc,CU]
end
def bL (f:Fl) (l:List UInt8):V:= .lst 5 f (bytesOf l)
theorem Ah (l:List UInt8):(bytesOf l).length=l.length:=by simp[bytesOf]
theorem Iq (a b:List UInt8):bytesOf (a++b)=bytesOf a++bytesOf b:=by simp[bytesOf]
theorem bytesOf_take (n:Nat) (a:List UInt8):(bytesOf a).take n=bytesOf (a.take n):=by simp[bytesOf,List.map_take]
theorem bytesOf_drop (n:Nat) (a:List UInt8):(bytesOf a).drop n=bytesOf (a.drop n):=by simp[bytesOf,List.map_drop]
theorem CB:∀l:List UInt8,AL (bytesOf l)=true
 |[]=>rfl
 |x::l=>by simp only[bytesOf,List.map_cons,AL];rw[show List.map _ l=bytesOf l from rfl,CB l];rfl
theorem Nb (x:Int):CO P 5 (.int .u8 x)=true:=by simp[CO,K_5,BM,VP]
theorem Ez (l:List UInt8):JZ P 5 (bytesOf l)=true:=by
 simp[JZ,bytesOf,Nb]
theorem L8 {B:Type} {f:Fl} {l:List UInt8} (K':V→Option B):(lenV P 167 (V.weak (bL f l))).bind K'=K' (.int .i64 (l.length:Int)):=by
 rw[bL,Vj NT,Ah]
theorem ABy {B:Type} {f:Fl} {l:List UInt8} (K':V→Option B):(lenV P 167 (bL f l)).bind K'=K' (.int .i64 (l.length:Int)):=by
 rw[bL,AAI NT,Ah]
theorem ABz {f:Fl} {h:List V} {l m:List UInt8} {g:Fl} (hf:f= .own∨f= .nil) (hl:l.length+m.length≤2147483648) (hne:f= .nil→m.isEmpty=false:=by first|(intro h;cases h;done)|(intro _;rfl)):
 Ea P 167 h (bL f l) (bL g m)=some (bL .own (l++m)):=by
 rw[bL,ADv ET hf (y:=bL g m) (ys:=bytesOf m) rfl (CB m) (Ez m) (by simpa [Ah]using hl) VQ (fun h=>by have:=hne h;cases m<;>first|(cases this;done)|rfl),bL,Iq]
theorem AB0 (x:Nat) (hx:x<256):JD P 167 1 [(0,.int .u8 (x:Int))]=some (bL .own [UInt8.ofNat x]):=by
 rw[ABx ET (Nb _) rfl VQ ⟨_,rfl⟩,bL]
 simp[bytesOf,Nat.mod_eq_of_lt hx]
theorem app1 {B:Type} {f:Fl} {h:List V} {l:List UInt8} (hf:f= .own∨f= .nil) (hl:l.length+1≤2147483648) (x:Nat) (hx:x<256) (K':V→Option B):
 (JD P 167 1 [(0,.int .u8 (x:Int))]).bind (fun y=>(Ea P 167 h (bL f l) y).bind K')=K' (bL .own (l++[UInt8.ofNat x])):=by
 rw[AB0 x hx]
 exact AB (ABz hf (by simpa using hl) (fun _=>rfl)) K'
end
section
open Go AM
def part (p:Fl×List UInt8):V:=bL p.1 p.2
def parts (L:List (Fl×List UInt8)):List V:=L.map part
def flat (L:List (Fl×List UInt8)):List UInt8:=(L.map (·.2)).flatten
theorem Ec:∀l:List UInt8,Ag (bytesOf l)=bytesOf l
 |[]=>rfl
 |x::l=>by simp only[bytesOf,List.map_cons,Ag];rw[show List.map _ l=bytesOf l from rfl,Ec l];rfl
theorem L9 {L:List (Fl×List UInt8)} {i:Nat} (hi:i<L.length):(parts L)[i]?=some (part L[i]):=by
 simp[parts,hi]
theorem Fj (p:Fl×List UInt8):∃g,(part p).weak=bL g p.2:=by
 obtain⟨f,l⟩:=p;exact HY
theorem Vk {s e:TypeId} {id off len a:Nat} {p:List Nat} (k:K P s= .slice e) (h1:a≤len):
 LD P s (V.weak (.win id p off len e)) (some (.int .i64 (a:Int))) none none=some (.win id p (off+a) (len-a) e):=by
 have e2:(0:Int)≤(a:Int)∧(a:Int)≤(len:Int):=⟨by omega,by omega⟩
 simp[LD,V.weak,k,BH,e2,h1]
theorem Qb {e:TypeId} {s:TypeId} {off len:Nat} {xs ys:List V} {y:V} (k:K P s= .slice e) (hy:Aj [.row e xs] y=some ys) (hc:AL ys=true) (ht:JZ P e ys=true) (hn:BF P depth e=false) (hl:ys.length≤len):
 Xb P s [.row e xs] (.win 0 [] off len e) y=some (.int .i64 (ys.length:Int),[.row e (xs.take off++ys++xs.drop (off+ys.length))]):=by
 have m:min ys.length len=ys.length:=by omega
 simp[Xb,Dc,k,hy,hc,ht,rd,V.at,V.items,wr,V.upd,CU,hn,m]
theorem Gj (p:Fl×List UInt8) (L:List (Fl×List UInt8)):flat (p::L)=p.2++flat L:=rfl
theorem YK (fs:Fl) (L:List (Fl×List UInt8)) (hL:L.length<2147483648) (f:Fl) (N:Nat) (hN:N<2147483648) (h0:0<N):∀(n i:Nat) (done:List UInt8),i+n=L.length→N=done.length+(flat (L.drop i)).length→
 JL (.lst 5 fs []) (.win 0 [] 0 N 5) (.int .i64 (done.length:Int)) (.lst 167 f (parts L)) (.int .i64 (L.length:Int)) (.int .i64 (i:Int)) [.row 5 (bytesOf done++List.replicate (N-done.length) .undef)]=
  some (bL .own (done++flat (L.drop i)),[]):=by
 intro n
 induction n with
 |zero=>
  intro i done hi hn
  have hd:L.drop i=[]:=by simp;omega
  rw[hd]at hn⊢
  simp only[flat,List.map_nil,List.flatten_nil,List.length_nil,Nat.add_zero,List.append_nil]at hn⊢
  subst hn
  rw[Jt,Js,Tv (by omega),Dh,Ox]
  have c:Aj [V.row 5 (bytesOf done)] (.win 0 [] 0 done.length 5)=some (bytesOf done):=by
   simp[Aj,rd,V.at,V.items,Ah]
   rw[List.take_of_length_le (by simp[Ah])]
  simp[LM,c,CB,Ec,bL,Nat.ble,Nat.blt,Nat.ble_eq]
  exact List.ne_nil_of_length_pos h0
 |succ n ih=>
  intro i done hi hn
  have hlt:i<L.length:=by omega
  rw[Jt,Js,Qa (by omega),EL,Oq]
  refine(AAJ O9 (L9 hlt) _).trans<|(YJ _).trans ?_
  obtain⟨g,hg⟩:=Fj L[i]
  rw[hg]
  rw[Ot]
  refine(AB (Vk ET (by omega)) _).trans ?_
  refine(AB (Qb (ys:=[]) ET (by cases fs<;>rfl) rfl rfl VQ (Nat.zero_le _)) _).trans ?_
  refine(LV (b:=0) (by simp;omega) _).trans ?_
  simp only[List.length_nil,Nat.add_zero,Nat.zero_add,List.append_nil,List.take_append_drop]
  rw[Ou]
  have hd:flat (L.drop i)=L[i].2++flat (L.drop (i+1)):=by rw[List.drop_eq_getElem_cons hlt,Gj]
  rw[hd]at hn⊢
  rw[List.length_append]at hn
  refine(AB (Vk ET (by omega)) _).trans ?_
  refine(AB (Qb (ys:=bytesOf L[i].2) ET rfl (CB _) (Ez _) VQ (by rw[Ah];omega)) _).trans ?_
  rw[Ah]
  refine(LV (by omega) _).trans ?_
  rw[Ov]
  refine(LV (b:=1) (by omega) _).trans ?_
  have:=ih (i+1) (done++L[i].2) (by omega) (by simp;omega)
  rw[List.append_assoc,List.length_append]at this
  rw[←this]
  congr 1
  simp[Iq,Ah,List.take_append,List.drop_append,List.take_of_length_le,List.drop_eq_nil_of_le]
  omega
theorem ADw {R:Type} {n:Nat} {h:List V} (hn:n≤2147483648) (k:V→List V→Option R):Xc P 0 149 [.int .i64 (n:Int)] h k=k (.win h.length [] 0 n 5) (h++[.row 5 (List.replicate n .undef)]):=by
 have:(0:Nat)=0∧(0:Int)≤(n:Int)∧(n:Int)≤(DF:Int):=⟨rfl,by omega,by simp only[DF];omega⟩
 unfold Xc
 refine(if_pos this).trans ?_
 have key:∀e:TypeId,e=5→k (.win h.length [] 0 (n:Int).toNat e) (h++[.row e (List.replicate (n:Int).toNat .undef)])=k (.win h.length [] 0 n 5) (h++[.row 5 (List.replicate n .undef)]):=by rintro _ rfl;rfl
 exact key _ (by kernel_rfl)
theorem YL {s e:TypeId} {id off len b:Nat} {p:List Nat} (k:K P s= .slice e) (h1:b≤len):
 LD P s (.win id p off len e) none (some (.int .i64 (b:Int))) (some (.int .i64 (b:Int)))=some (.win id p off b e):=by
 have e2:(0:Int)≤(b:Int)∧(b:Int)≤(len:Int):=⟨by omega,by omega⟩
 simp[LD,V.weak,k,BH,e2,h1]
theorem YM (fs:Fl) (L:List (Fl×List UInt8)) (hL:L.length<2147483648) (hL0:0<L.length) (f:Fl) (hN:(flat L).length<2147483648) (h0:0<(flat L).length):∀(n i acc:Nat),i+n=L.length→acc+(flat (L.drop i)).length=(flat L).length→
 JK (.lst 167 f (parts L)) (.lst 5 fs []) (.int .i64 (acc:Int)) (V.weak (.lst 167 f (parts L))) (.int .i64 (L.length:Int)) (.int .i64 (i:Int)) []=
  some (bL .own (flat L),[]):=by
 intro n
 induction n with
 |zero=>
  intro i acc hi hn
  have hd:L.drop i=[]:=by simp;omega
  rw[hd]at hn
  have e0:(flat ([]:List (Fl×List UInt8))).length=0:=rfl
  rw[Ju,Jr,Tv (by omega),Dh,Ol]
  have hacc:acc=(flat L).length:=by omega
  subst hacc
  rw[ADw (by omega)]
  refine(AB (YL ET (Nat.le_refl _)) _).trans ?_
  obtain⟨p,L',rfl⟩:=List.exists_cons_of_length_pos hL0
  rw[Om]
  refine(ABw (i:=0) (v:=part p) O9 rfl _).trans<|(YJ _).trans ?_
  obtain⟨g,hg⟩:=Fj p
  rw[hg]
  refine(AB (Qb (ys:=bytesOf p.2) ET rfl (CB _) (Ez _) VQ (by rw[Ah,Gj,List.length_append];omega)) _).trans ?_
  rw[Oo]
  have sl:LD P 198 (.lst 167 f (parts (p::L'))) (some (.int .i64 1)) none none=some (.lst 167 f.cut (parts L')):=by
   have e1:(1:Int)≤((parts L').length:Int)+1:=by omega
   simp[LD,O9,BH,parts,e1]
   constructor
   ·omega
   ·rw[List.take_of_length_le (by simp)]
  refine(AB sl _).trans ?_
  refine(AAI JR _).trans ?_
  have:=YK fs L' (by simp at hL;omega) f.cut (flat (p::L')).length hN h0 L'.length 0 p.2 (by omega) (by rw[Gj,List.length_append];rfl)
  simp only[List.drop_zero]at this
  rw[←Gj]at this
  refine Eq.trans ?_ this
  simp only[parts,List.length_map,Ah,List.length_nil,List.nil_append,List.take_zero,Nat.zero_add,List.drop_replicate]
  rfl
 |succ n ih=>
  intro i acc hi hn
  have hlt:i<L.length:=by omega
  have hd:flat (L.drop i)=L[i].2++flat (L.drop (i+1)):=by rw[List.drop_eq_getElem_cons hlt,Gj]
  rw[hd,List.length_append]at hn
  rw[Ju,Jr,Qa (by omega),EL,Og]
  refine(ABw O9 (L9 hlt) _).trans<|(YJ _).trans ?_
  obtain⟨g,hg⟩:=Fj L[i]
  rw[hg,Oh]
  refine L8 _ |>.trans ?_
  refine(AB (Je _ _ _) _).trans ?_
  rw[wrap_i64 (by omega) (by omega)]
  refine(AB (b_gtr _ _ _) _).trans ?_
  rw[decide_eq_false (by omega),Dh,Oi]
  refine ABy _ |>.trans ?_
  refine(LV (by omega) _).trans ?_
  rw[Oj]
  refine(LV (b:=1) (by omega) _).trans ?_
  exact ih (i+1) (acc+L[i].2.length) (by omega) (by omega)
theorem YN (fs:Fl) (L:List (Fl×List UInt8)) (hL:L.length<2147483648) (f:Fl) (hN:(flat L).length<2147483648) (h0:0<(flat L).length):
 Cl 140 [.lst 167 f (parts L),.lst 5 fs []] []=some (bL .own (flat L),[]):=by
 have hL0:0<L.length:=by
  cases L with
  |nil=>cases h0
  |cons=>simp
 have lp:(parts L).length=L.length:=by simp[parts]
 rw[Xw,Rl,Rn]
 refine(Vj JR _).trans ?_
 rw[lp]
 refine(AB (b_eql _ _ _) _).trans ?_
 rw[decide_eq_false (by omega),Dh,Ro]
 refine(Vj JR _).trans ?_
 rw[lp]
 refine(AB (b_eql _ _ _) _).trans ?_
 by_cases h1:L.length=1
 ·rw[decide_eq_true (by omega),EL,Rq]
  match L,h1 with
  |[p],_=>
   refine(AAJ (i:=0) (v:=part p) O9 rfl _).trans<|(YJ _).trans ?_
   obtain⟨g,hg⟩:=Fj p
   have e:flat [p]=p.2:=by simp[flat]
   rw[e]at hN h0⊢
   rw[hg]
   have a:=ABz (f:= .nil) (h:=[]) (l:=[]) (m:=p.2) (g:=g) (Or.inr rfl) (by simp;omega) (fun _=>by cases hp:p.2 with|nil=>rw[hp]at h0;simp at h0|cons=>rfl)
   refine(AB a _).trans ?_
   refine(AB (show Dq [] (bL .own ([]++p.2))=some (.win 0 [] 0 p.2.length 5,[.row 5 (bytesOf p.2)])by simp[Dq,bL,Ah]) _).trans ?_
   have c:Aj [V.row 5 (bytesOf p.2)] (.win 0 [] 0 p.2.length 5)=some (bytesOf p.2):=by
    simp[Aj,rd,V.at,V.items,Ah]
    rw[List.take_of_length_le (by simp[Ah])]
   simp[LM,c,CB,Ec,bL,Nat.ble,Nat.blt,Nat.ble_eq]
   exact List.ne_nil_of_length_pos h0
 ·rw[decide_eq_false (by omega),Dh,Rt,Ru]
  refine(Vj NT _).trans ?_
  refine(AB (b_gtr _ _ _) _).trans ?_
  simp only[jn,List.length_nil]
  rw[decide_eq_false (by omega),Dh,Oe]
  refine(Vj JR _).trans ?_
  rw[lp]
  exact YM fs L hL hL0 f hN h0 L.length 0 0 (by omega) (by simp)
end
section
open Go AM
def Qc (n:Nat):Nat:=(120-n%64)%64
def lb (n i:Nat):UInt8:=UInt8.ofNat (n/2^(56-8*i)%256)
def KE (n:Nat):Nat→Nat→List UInt8
 |0,_=>[]
 |k+1,i=>lb n i::KE n k (i+1)
def Vl (l:List UInt8):List UInt8:=(l++[128])++List.replicate (Qc (l.length+1)) 0++KE (8*l.length) 8 0
def blocks:Nat→List Nat→List UInt8→List Nat
 |0,h,_=>h
 |n+1,h,p=>blocks n (PK h (p.take 64)) (p.drop 64)
def dg (st:List Nat) (i:Nat):UInt8:=UInt8.ofNat (st.getD (i/4) 0/2^(24-8*(i%4))%256)
def MB (st:List Nat):Nat→Nat→List UInt8→List UInt8
 |0,_,w=>w
 |n+1,i,w=>MB st n (i+1) (w.set i (dg st i))
def E5:List Nat:=(match Lp with|V.agg _ l=>l|_=>[]).map fun v=>match v with|V.int _ n=>n.toNat|_=>0
def AB1 (l:List UInt8):List Nat:=blocks ((Vl l).length/64) E5 (Vl l)
def sha (l:List UInt8):List UInt8:=MB (AB1 l) 32 0 (List.replicate 32 0)
def G5 (l:List UInt8):V:= .agg 39 (bytesOf l)
theorem YO:Lp=A8 E5:=by kernel_rfl
theorem AB2:E5.length=8:=by kernel_rfl
theorem AB3:B32 E5:=by
 have h:E5.all (fun x=>decide (x<4294967296))=true:=by kernel_rfl
 intro x hx
 have:=List.all_eq_true.1 h x hx
 exact of_decide_eq_true this
theorem PU {h:List Nat} (p:List UInt8) (bh:B32 h) (hh:h.length=8):B32 (PK h p)∧(PK h p).length=8:=SQ _ _ _ bh hh
theorem UB (l:List UInt8) (i:Nat) (x:UInt8):(bytesOf l).set i (.int .u8 (x.toNat:Int))=bytesOf (l.set i x):=by
 simp[bytesOf,List.map_set]
theorem AB4 (x:Nat) (hx:x<256):(V.int .u8 (x:Int))= .int .u8 ((UInt8.ofNat x).toNat:Int):=by
 simp[Nat.mod_eq_of_lt hx]
theorem Ir (n:Nat):∀l:List UInt8,AU n (bytesOf l)=true
 |[]=>rfl
 |x::l=>by simp only[bytesOf,List.map_cons,AU];rw[show List.map _ l=bytesOf l from rfl,Ir n l];rfl
theorem KF (n:Nat):∀l:List UInt8,Bv n (bytesOf l)=true
 |[]=>rfl
 |x::l=>by simp only[bytesOf,List.map_cons,Bv];rw[show List.map _ l=bytesOf l from rfl,KF n l];rfl
theorem Iu (h:List V):∀l:List UInt8,Ba h (bytesOf l)=bytesOf l
 |[]=>rfl
 |x::l=>by simp only[bytesOf,List.map_cons,Ba];rw[show List.map _ l=bytesOf l from rfl,Iu h l];rfl
theorem Iw (h:List V):∀l:List UInt8,AP h (bytesOf l)=bytesOf l
 |[]=>rfl
 |x::l=>by simp only[bytesOf,List.map_cons,AP];rw[show List.map _ l=bytesOf l from rfl,Iw h l];rfl
theorem MC (h:List V):∀l:List Nat,AP h (G9 l)=G9 l
 |[]=>rfl
 |x::l=>by simp only[G9,List.map_cons,AP];rw[show List.map vw l=G9 l from rfl,MC h l];rfl
theorem Vm (h:List V) (l:List Nat):V.reify h (A8 l)=A8 l:=by simp only[A8,V.reify,MC]
theorem PV (h:List V) (f:Fl) (l:List UInt8):∃g,V.reify h (bL f l)=bL g l:=by
 cases f<;>simp only[bL,V.reify,Iw]<;>exact⟨_,rfl⟩
theorem YP (n:Nat) (h:List V) (l:List UInt8):Bh n h (G5 l)=some (G5 l,h.take n):=by
 simp only[Bh,G5,V.unmut,Iu,V.norm,Ec,V.clean,CB,V.over,KF,Bool.and_self,if_true]
theorem AB5:zero P 40=G5 (List.replicate 32 0):=by rw[ABq];rfl
theorem AB6 (l:List UInt8):CO P 40 (G5 l)=true:=by simp[CO,ABp,G5]
theorem AB7 (n:Nat) (l:List UInt8):(G5 l).under n=true:=by simp only[G5,V.under];exact Ir _ _
theorem AB8 (l:List Nat):CO P 200 (A8 l)=true:=by simp[CO,Ip,A8]
theorem AB9 (n:Nat) (l:List Nat):(A8 l).under n=true:=by simp only[A8,V.under];exact Dl _ _
theorem ADx {id i:Nat} (hi:i<32):AZ P 40 (.ref id [] 40) (.int .i64 (i:Int))=some (.ref id [i] 5):=by
 have:inside (i:Int) 32=true:=by simp[inside];omega
 simp[AZ,ABp,this]
theorem ADy {h:List V} {id i x:Nat} {l:List UInt8} (hh:h[id]?=some (G5 l)) (hi:i<l.length) (hx:x<256):Gz P h 5 (.ref id [i] 5) (.int .u8 (x:Int))=some (h.set id (G5 (l.set i (UInt8.ofNat x)))):=by
 rw[NV hh (Lr hi) (Nb _) rfl,AB4 x hx,UB];rfl
theorem AAK {h:List V} {st:List Nat} {w:List UInt8} {i:Nat} (hs:h[1]?=some (A8 st)) (hst:st.length=8) (hw:h[2]?=some (G5 w)) (lw:w.length=32) (hi:i<32) (K:List V→Option (V×List V)):
 Jl (.ref 1 [] 200) (.ref 2 [] 40) (.int .i64 (i:Int)) h K=K (h.set 2 (G5 (w.set i (dg st i)))):=by
 unfold Jl
 refine(AB (VE _ _ _ (by omega)) _).trans ?_
 rw[show(i:Int).tdiv 4=((i/4:Nat):Int)by rfl,wrap_i64 (by omega) (by omega)]
 refine(at8 hs hst (i/4) (by omega) _).trans ?_
 refine(AB (RP _ _ _ (by omega)) _).trans ?_
 rw[show(i:Int).tmod 4=((i%4:Nat):Int)by rfl]
 refine(YA (a:=8) (by omega) _).trans<|(LU (a:=24) (by omega) (by omega) _).trans ?_
 refine(AB (Dt NU ..) _).trans ?_
 rw[wrap_u64 (by omega) (by omega)]
 refine(AB (JU _ (by omega)) _).trans ?_
 refine(AB (Dt VP ..) _).trans ?_
 rw[Io]
 refine(AB (ADx hi) _).trans ?_
 exact AB (ADy hw (by omega) (Nat.mod_lt _ (by decide))) _
theorem ACA {st:List Nat} (hst:st.length=8) (z:List UInt8):∀(n i:Nat) (w:List UInt8),i+n=32→w.length=32→
 JJ (.ref 0 [] 40) (.ref 1 [] 200) (.ref 2 [] 40) (.int .i64 (i:Int)) [G5 z,A8 st,G5 w]=some (G5 (MB st n i w),[]):=by
 intro n
 induction n with
 |zero=>
  intro i w hi hw
  rw[Jm,Jk,Tv (by omega),Dh,Oc]
  refine(AB (Di (v:=G5 w) (Gi rfl)) _).trans ?_
  refine(AB (Fg (w:=G5 z) rfl (AB6 _) (AB7 _ _)) _).trans ?_
  refine(AB (Di (v:=G5 w) (Gi rfl)) _).trans ?_
  exact YP _ _ _
 |succ n ih=>
  intro i w hi hw
  rw[Jm,Jk,Qa (by omega),EL,Oa,AAK rfl hst rfl hw (by omega),Ob]
  refine(LV (b:=1) (by omega) _).trans ?_
  exact ih (i+1) _ (by omega) (by simp[hw])
theorem ACB:∀(n:Nat) (f:Fl) (p:List UInt8) (st:List Nat),p.length=64*n→p.length<2147483648→B32 st→st.length=8→
 JI (.ref 0 [] 40) (bL f p) (.ref 1 [] 200) [G5 (List.replicate 32 0),A8 st]=some (G5 (MB (blocks n st p) 32 0 (List.replicate 32 0)),[]):=by
 intro n
 induction n with
 |zero=>
  intro f p st hp hlt bs hst
  rw[Jo,Jj]
  refine L8 _ |>.trans ?_
  refine(AB (b_gtr _ _ _) _).trans ?_
  rw[decide_eq_false (by omega),Dh,OY,OZ,AB5]
  exact ACA hst _ 32 0 _ rfl rfl
 |succ n ih=>
  intro f p st hp hlt bs hst
  rw[Jo,Jj]
  refine L8 _ |>.trans ?_
  refine(AB (b_gtr _ _ _) _).trans ?_
  rw[decide_eq_true (by omega),EL,OW]
  refine(AB (Di (v:=A8 st) (Gi rfl)) _).trans ?_
  have sl:LD P 167 (V.weak (bL f p)) none (some (.int .i64 64)) none=some (bL f.cut (p.take 64)):=by
   have:=ABv (f:=f) (t:=5) (xs:=bytesOf p) ET (a:=0) (b:=64) (by omega) (by rw[Ah];omega)
   rw[List.drop_zero,bytesOf_take]at this
   rw[bL,bL,←this]
   obtain⟨g,hg⟩:=HY (e:=5) (f:=f) (xs:=bytesOf p)
   rw[hg]
   have e1:(64:Int)≤p.length:=by omega
   simp[LD,ET,BH,Ah,e1]
  refine(AB sl _).trans ?_
  obtain⟨g,hg⟩:=PV [G5 (List.replicate 32 0),A8 st] f.cut (p.take 64)
  have e:AP [G5 (List.replicate 32 0),A8 st] [A8 st,bL f.cut (p.take 64)]=[A8 st,bL g (p.take 64)]:=by
   simp only[AP,Vm,hg]
  rw[e]
  refine(AB (YF hst bs (by rw[List.length_take];omega) g) _).trans ?_
  refine(AB (Fg (w:=A8 st) rfl (AB8 _) (AB9 _ _)) _).trans ?_
  rw[OX]
  have sl2:LD P 167 (bL f p) (some (.int .i64 64)) none none=some (bL f.cut (p.drop 64)):=by
   have e1:(64:Int)≤p.length:=by omega
   simp[LD,bL,ET,BH,Ah,e1,bytesOf_drop]
   rw[List.take_of_length_le (by rw[Ah];omega),bytesOf_drop]
  refine(AB sl2 _).trans ?_
  exact ih f.cut (p.drop 64) (PK st (p.take 64)) (by rw[List.length_drop];omega) (by rw[List.length_drop];omega) (PU _ bs hst).1 (PU _ bs hst).2
theorem ACC (N:Nat) (hN:N<2147483648):∀(n i:Nat) (p:List UInt8),i+n=8→(p.length+n)%64=0→p.length<2147483000→
 JH (.ref 0 [] 40) (bL .own p) (.int .u64 ((8*N:Nat):Int)) (.int .i64 (i:Int)) [G5 (List.replicate 32 0)]=
  some (G5 (MB (blocks ((p++KE (8*N) n i).length/64) E5 (p++KE (8*N) n i)) 32 0 (List.replicate 32 0)),[]):=by
 intro n
 induction n with
 |zero=>
  intro i p hi hp hl
  rw[Jp,NM,Tv (by omega),Dh,OV,YO]
  refine(AB JS _).trans ?_
  refine(AB (Fg (w:=zero P 200) rfl (AB8 _) (AB9 _ _)) _).trans ?_
  simp only[KE,List.append_nil]
  exact ACB (p.length/64) .own p E5 (by omega) (by omega) AB3 AB2
 |succ n ih=>
  intro i p hi hp hl
  rw[Jp,NM,Qa (by omega),EL,Rj,Rk]
  refine(YA (a:=8) (by omega) _).trans<|(LU (a:=56) (by omega) (by omega) _).trans ?_
  refine(AB (Dt NU ..) _).trans ?_
  rw[wrap_u64 (by omega) (by omega)]
  have hs:AO .shr (.int .u64 ((8*N:Nat):Int)) (.int .u64 ((56-8*i:Nat):Int))=some (.int .u64 ((8*N/2^(56-8*i):Nat):Int)):=by
   rw[ZM _ _ _ _ (by omega)]
   have:min (((56-8*i:Nat):Int)).toNat (IntKind.u64).bits=56-8*i:=by simp[IntKind.bits];omega
   rw[this,PE]
  refine(AB hs _).trans ?_
  refine(AB (Dt VP ..) _).trans ?_
  rw[Io]
  refine(app1 (Or.inl rfl) (by omega) _ (Nat.mod_lt _ (by decide)) _).trans ?_
  rw[OU]
  refine(LV (b:=1) (by omega) _).trans ?_
  have:=ih (i+1) (p++[lb (8*N) i]) (by omega) (by simp;omega) (by simp;omega)
  rw[List.append_assoc,List.singleton_append]at this
  exact this
theorem ACD (N:Nat) (hN:N<2147483648):∀(n:Nat) (p:List UInt8),Qc p.length=n→p.length+n<2147482000→
 JG (.ref 0 [] 40) (bL .own p) (.int .u64 ((8*N:Nat):Int)) [G5 (List.replicate 32 0)]=
  some (G5 (MB (blocks ((p++List.replicate n 0++KE (8*N) 8 0).length/64) E5 (p++List.replicate n 0++KE (8*N) 8 0)) 32 0 (List.replicate 32 0)),[]):=by
 intro n
 induction n with
 |zero=>
  intro p hp hl
  rw[Jq,NK]
  refine L8 _ |>.trans ?_
  refine(AB (RP _ _ _ (by omega)) _).trans ?_
  rw[show(p.length:Int).tmod 64=((p.length%64:Nat):Int)by rfl]
  refine(AB (b_neq _ _ _) _).trans ?_
  simp only[Qc]at hp
  rw[decide_eq_false (by omega),Dh,Ri,List.replicate_zero,List.append_nil]
  exact ACC N hN 8 0 p rfl (by omega) (by omega)
 |succ n ih=>
  intro p hp hl
  rw[Jq,NK]
  refine L8 _ |>.trans ?_
  refine(AB (RP _ _ _ (by omega)) _).trans ?_
  rw[show(p.length:Int).tmod 64=((p.length%64:Nat):Int)by rfl]
  refine(AB (b_neq _ _ _) _).trans ?_
  simp only[Qc]at hp
  rw[decide_eq_true (by omega),EL,Rh]
  refine(app1 (Or.inl rfl) (by omega) 0 (by omega) _).trans ?_
  have:=ih (p++[0]) (by simp only[Qc,List.length_append,List.length_cons,List.length_nil];omega) (by simp;omega)
  rw[List.append_assoc p [0],List.singleton_append]at this
  exact this
theorem Qd (h:List V) (p:Fl×List UInt8):∃g,V.reify h (part p)=part (g,p.2):=PV h p.1 p.2
theorem He (h:List V):∀L:List (Fl×List UInt8),∃L',AP h (parts L)=parts L'∧flat L'=flat L∧L'.length=L.length
 |[]=>⟨[],rfl,rfl,rfl⟩
 |p::L=>by
  obtain⟨L',e1,e2,e3⟩:=He h L
  obtain⟨g,hg⟩:=Qd h p
  refine⟨(g,p.2)::L',?_,?_,by simp[e3]⟩
  ·simp only[parts,List.map_cons,AP,hg];exact congrArg _ e1
  ·rw[Gj,Gj,e2]
theorem PW (h:List V) (f:Fl) (L:List (Fl×List UInt8)):∃f' L',V.reify h (.lst 167 f (parts L))= .lst 167 f' (parts L')∧flat L'=flat L∧L'.length=L.length:=by
 obtain⟨L',e1,e2,e3⟩:=He h L
 cases f
 case lent=>exact⟨.lent,L',by simp only[V.reify,e1],e2,e3⟩
 all_goals exact⟨.sh,L,rfl,rfl,rfl⟩
theorem ACE (L:List (Fl×List UInt8)) (hL:L.length<2147483648) (f:Fl) (hN:(flat L).length<2147480000) (h0:0<(flat L).length):
 Cl 122 [.lst 167 f (parts L)] []=some (G5 (sha (flat L)),[]):=by
 obtain⟨f',L',e1,e2,e3⟩:=PW [G5 (List.replicate 32 0)] f L
 have er:AP [G5 (List.replicate 32 0)] [.lst 167 f (parts L),.lst 5 .nil []]=[.lst 167 f' (parts L'),.lst 5 .sh []]:=by
  simp only[AP,e1];rfl
 rw[Xr,RX,RY,AB5]
 simp only[List.nil_append]
 rw[er]
 refine(AB (YN .sh L' (by omega) f' (by rw[e2];omega) (by rw[e2];exact h0)) _).trans ?_
 rw[e2,RZ]
 refine L8 _ |>.trans ?_
 refine(AB (Dt X0 ..) _).trans ?_
 rw[wrap_u64 (by omega) (by omega)]
 refine(AB (VD _ _ _) _).trans ?_
 rw[wrap_u64 (by omega) (by omega),show((flat L).length:Int)*8=((8*(flat L).length:Nat):Int)by omega,Rf]
 refine(app1 (Or.inl rfl) (by omega) 128 (by omega) _).trans ?_
 have z:Qc ((flat L).length+1)<64:=Nat.mod_lt _ (by decide)
 exact ACD (flat L).length (by omega) (Qc ((flat L).length+1)) (flat L++[128]) (by simp) (by simp;omega)
end
section
namespace AM
open Go
mutual
def MF (P:Program) (A:Ann) (Q:FuncId→List V→List V→Option (V×List V)):Nat→FuncId→List V→List V→Option (V×List V)
 |0,_,_,_=>none
 |k+1,f,vs,h=>match Q f vs h with
  |some r=>some r
  |none=>body P A ⟨MF P A Q k,MG P A Q k⟩ f vs h
def MG (P:Program) (A:Ann) (Q:FuncId→List V→List V→Option (V×List V)):Nat→FuncId→Nat→Code→St→Option (Ex×St)
 |0,_,_,_,_=>none
 |k+1,fn,blk,b,st=>round P A ⟨MF P A Q k,MG P A Q k⟩ fn blk b st
end
theorem Orc.le.limO {O O':Orc} (hl:Orc.le O O'):LimO (fun n=>if n=0 then O else O') O':=by
 constructor
 ·intro f vs h
  refine⟨fun n r hr=> ?_,fun r=>⟨fun hr=>⟨1,by simpa using hr⟩,fun⟨n,hn⟩=> ?_⟩⟩
  ·by_cases h0:n=0
   ·subst h0;simpa using hl.1 _ _ _ _ (by simpa using hr)
   ·simpa [h0]using hr
  ·by_cases h0:n=0
   ·subst h0;exact hl.1 _ _ _ _ (by simpa using hn)
   ·simpa [h0]using hn
 ·intro fn blk b st
  refine⟨fun n r hr=> ?_,fun r=>⟨fun hr=>⟨1,by simpa using hr⟩,fun⟨n,hn⟩=> ?_⟩⟩
  ·by_cases h0:n=0
   ·subst h0;simpa using hl.2 _ _ _ _ _ (by simpa using hr)
   ·simpa [h0]using hr
  ·by_cases h0:n=0
   ·subst h0;exact hl.2 _ _ _ _ _ (by simpa using hn)
   ·simpa [h0]using hn
theorem AX {P:Program} {A:Ann} {Q:FuncId→List V→List V→Option (V×List V)} (hQ:∀f vs h r,Q f vs h=some r→Eh P A f vs h=some r) (k:Nat):
 (∀f vs h r,MF P A Q k f vs h=some r→Eh P A f vs h=some r)∧(∀fn blk b st r,MG P A Q k fn blk b st=some r→Lh P A fn blk b st=some r):=by
 induction k with
 |zero=>exact⟨fun _ _ _ _ h=>by simp[MF]at h,fun _ _ _ _ _ h=>by simp[MG]at h⟩
 |succ k ih=>
  have hl:Orc.le ⟨MF P A Q k,MG P A Q k⟩ (Eu P A):=ih
  constructor
  ·intro f vs h r hr
   simp only[MF]at hr
   split at hr
   ·rename_i e;rw[←Option.some.inj hr];exact hQ _ _ _ _ e
   ·rw[OG]
    have:=(Jd (P:=P) (A:=A) hl.limO f vs h).up 0 r (by simpa using hr)
    simpa using this
  ·intro fn blk b st r hr
   simp only[MG]at hr
   rw[OH]
   have:=(IK (P:=P) (A:=A) hl.limO fn blk b st).up 0 r (by simpa using hr)
   simpa using this
end AM
end
section
open Go AM
def Vo:List V→Option (List UInt8)
 |[]=>some []
 | .int .u8 (.ofNat n)::l=>if n<256 then(Vo l).map (UInt8.ofNat n::·)else none
 |_=>none
def Vp:List V→Option (List (Fl×List UInt8))
 |[]=>some []
 | .lst e f xs::l=>if e=5 then(Vo xs).bind fun b=>(Vp l).map ((f,b)::·)else none
 |_=>none
theorem SS:∀(xs:List V) (l:List UInt8),Vo xs=some l→xs=bytesOf l
 |[],l,h=>by simp[Vo]at h;subst h;rfl
 |x::xs,l,h=>by
  unfold Vo at h
  split at h
  ·rename_i e;exact absurd e (by simp)
  ·rename_i n l' e
   cases e
   split at h
   ·rename_i hn
    obtain⟨l',h1,rfl⟩:=Option.map_eq_some_iff.1 h
    rw[SS xs l' h1]
    simp[bytesOf,Nat.mod_eq_of_lt hn]
   ·cases h
  ·cases h
theorem SV:∀(xs:List V) (L:List (Fl×List UInt8)),Vp xs=some L→xs=parts L
 |[],l,h=>by simp[Vp]at h;subst h;rfl
 |x::xs,l,h=>by
  unfold Vp at h
  split at h
  ·rename_i e;exact absurd e (by simp)
  ·rename_i e f ys l' he
   cases he
   split at h
   ·rename_i hn
    subst hn
    obtain⟨b,h1,h2⟩:=Option.bind_eq_some_iff.1 h
    obtain⟨l',h3,rfl⟩:=Option.map_eq_some_iff.1 h2
    rw[SV xs l' h3,SS ys b h1]
    simp[parts];rfl
   ·cases h
  ·cases h
def ACF:List V→List V→Option (V×List V)
 |[.lst e fl xs],[]=>if e=167 then(Vp xs).bind fun L=>if L.length<2147483648∧(flat L).length<2147480000∧0<(flat L).length then some (G5 (sha (flat L)),[])else none else none
 |_,_=>none
def oq (f:FuncId) (vs h:List V):Option (V×List V):=
 bif Nat.beq f 122 then ACF vs h else none
theorem ADz {a b:Nat} (h:¬a=b):Nat.beq a b=false:=by
 cases e:Nat.beq a b with
 |false=>rfl
 |true=>exact absurd (Nat.eq_of_beq_eq_true e) h
theorem BD (f:FuncId) (vs h:List V) (r:V×List V) (e:oq f vs h=some r):Cl f vs h=some r:=by
 unfold oq at e
 by_cases h1:f=122
 ·subst h1
  rw[show Nat.beq 122 122=true from rfl,cond_true]at e
  unfold ACF at e
  split at e
  ·rename_i a fl xs
   split at e
   ·rename_i ha
    subst ha
    obtain⟨L,h2,h3⟩:=Option.bind_eq_some_iff.1 e
    split at h3
    ·rename_i hc
     rw[←Option.some.inj h3,SV xs L h2]
     exact ACE L hc.1 fl hc.2.1 hc.2.2
    ·cases h3
   ·cases e
  ·cases e
 ·rw[ADz h1]at e
  cases e
end
section
open Go AM
structure Ent where
 f:FuncId
 vs:List V
 h:List V
 r:V×List V
def Ent.ok (e:Ent):Prop:=Cl e.f e.vs e.h=some e.r
def lkE (T:List Ent) (Q:FuncId→List V→List V→Option (V×List V)) (f:FuncId) (vs h:List V):Option (V×List V):=
 match T.find? fun e=>Nat.beq e.f f&&Eo e.vs vs&&Eo e.h h with
 |some e=>some e.r
 |none=>Q f vs h
theorem Ap {T:List Ent} {Q:FuncId→List V→List V→Option (V×List V)} (hT:∀e∈T,e.ok) (hQ:∀f vs h r,Q f vs h=some r→Cl f vs h=some r) (f:FuncId) (vs h:List V) (r:V×List V) (hr:lkE T Q f vs h=some r):Cl f vs h=some r:=by
 unfold lkE at hr
 split at hr
 ·rename_i e he
  have h1:=List.find?_some he
  have h2:=hT e (List.mem_of_find?_eq_some he)
  simp only[Bool.and_eq_true]at h1
  obtain⟨⟨h3,h4⟩,h5⟩:=h1
  rw[←Option.some.inj hr,←Nat.eq_of_beq_eq_true h3,←DW _ _ h4,←DW _ _ h5]
  exact h2
 ·exact hQ _ _ _ _ hr
def by8 (l:List Int):List V:=l.map (V.int .u8)
def T0:List Ent:=[]
theorem ZU:∀e∈T0,e.ok:=by intro e he;cases he
def T1:List Ent:=⟨9,[.agg 31 [.int .i64 2,.lst 29 .sh [.agg 28 [.int .i64 0,.int .i64 1,.int .i64 5]]],.agg 33 [.str [115,115,115,112],.int .i64 0,.int .i64 3],.int .i64 1,.int .i64 0],[.agg 31 [.int .i64 2,.lst 29 .sh [.agg 28 [.int .i64 0,.int .i64 1,.int .i64 5]]],.agg 33 [.str [115,115,115,112],.int .i64 0,.int .i64 3]],(.tup [.ref 4 [] 66,.int .i64 0],[.agg 31 [.int .i64 2,.lst 29 .sh [.agg 28 [.int .i64 0,.int .i64 1,.int .i64 5]]],.agg 33 [.str [115,115,115,112],.int .i64 0,.int .i64 3],.agg 31 [.int .i64 2,.lst 29 .sh [.agg 28 [.int .i64 0,.int .i64 1,.int .i64 5]]],.agg 33 [.str [115,115,115,112],.int .i64 0,.int .i64 3],.agg 65 [.agg 31 [.int .i64 2,.lst 29 .sh [.agg 28 [.int .i64 0,.int .i64 1,.int .i64 5]]],.agg 33 [.str [115,115,115,112],.int .i64 0,.int .i64 3],.int .i64 1,.int .i64 0,.int .i64 0,.lst 68 .nil [],.lst 68 .own [.agg 67 [.int .i64 0,.int .i64 0,.bool true,.bool false,.int .i64 0],.agg 67 [.int .i64 1,.int .i64 (-1),.bool true,.bool false,.int .i64 0]],.bool false]])⟩::T0
theorem ZV:∀e∈T1,e.ok:=List.forall_mem_cons.2 ⟨(AX (Ap ZU BD) 400).1 _ _ _ _ (by kernel_rfl),ZU⟩
def T2:List Ent:=⟨42,[.lst 68 .sh [.agg 67 [.int .i64 0,.int .i64 0,.bool true,.bool false,.int .i64 0],.agg 67 [.int .i64 1,.int .i64 (-1),.bool true,.bool false,.int .i64 0]]],[],(.lst 9 .sh [.str [0,0,1,0,0],.str [1,1,1,0,0]],[])⟩::T1
theorem ZW:∀e∈T2,e.ok:=List.forall_mem_cons.2 ⟨(AX (Ap ZV BD) 400).1 _ _ _ _ (by kernel_rfl),ZV⟩
def T3:List Ent:=⟨21,[.lst 68 .sh [.agg 67 [.int .i64 0,.int .i64 0,.bool true,.bool false,.int .i64 0],.agg 67 [.int .i64 1,.int .i64 (-1),.bool true,.bool false,.int .i64 0]]],[],(.agg 39 (by8 [150,43,153,188,10,22,125,174,31,250,120,209,18,105,255,193,73,34,213,37,202,22,214,2,72,242,199,202,168,105,70,3]),[])⟩::T2
theorem ZX:∀e∈T3,e.ok:=List.forall_mem_cons.2 ⟨(AX (Ap ZW BD) 400).1 _ _ _ _ (by kernel_rfl),ZW⟩
def T4:List Ent:=⟨10,[.ref 4 [] 66],[.agg 31 [.int .i64 2,.lst 29 .sh [.agg 28 [.int .i64 0,.int .i64 1,.int .i64 5]]],.agg 33 [.str [115,115,115,112],.int .i64 0,.int .i64 3],.agg 31 [.int .i64 2,.lst 29 .sh [.agg 28 [.int .i64 0,.int .i64 1,.int .i64 5]]],.agg 33 [.str [115,115,115,112],.int .i64 0,.int .i64 3],.agg 65 [.agg 31 [.int .i64 2,.lst 29 .sh [.agg 28 [.int .i64 0,.int .i64 1,.int .i64 5]]],.agg 33 [.str [115,115,115,112],.int .i64 0,.int .i64 3],.int .i64 1,.int .i64 0,.int .i64 0,.lst 68 .nil [],.lst 68 .own [.agg 67 [.int .i64 0,.int .i64 0,.bool true,.bool false,.int .i64 0],.agg 67 [.int .i64 1,.int .i64 (-1),.bool true,.bool false,.int .i64 0]],.bool false]],(.agg 39 (by8 [150,43,153,188,10,22,125,174,31,250,120,209,18,105,255,193,73,34,213,37,202,22,214,2,72,242,199,202,168,105,70,3]),[.agg 31 [.int .i64 2,.lst 29 .sh [.agg 28 [.int .i64 0,.int .i64 1,.int .i64 5]]],.agg 33 [.str [115,115,115,112],.int .i64 0,.int .i64 3],.agg 31 [.int .i64 2,.lst 29 .sh [.agg 28 [.int .i64 0,.int .i64 1,.int .i64 5]]],.agg 33 [.str [115,115,115,112],.int .i64 0,.int .i64 3],.agg 65 [.agg 31 [.int .i64 2,.lst 29 .sh [.agg 28 [.int .i64 0,.int .i64 1,.int .i64 5]]],.agg 33 [.str [115,115,115,112],.int .i64 0,.int .i64 3],.int .i64 1,.int .i64 0,.int .i64 0,.lst 68 .nil [],.lst 68 .own [.agg 67 [.int .i64 0,.int .i64 0,.bool true,.bool false,.int .i64 0],.agg 67 [.int .i64 1,.int .i64 (-1),.bool true,.bool false,.int .i64 0]],.bool false]])⟩::T3
theorem ZY:∀e∈T4,e.ok:=List.forall_mem_cons.2 ⟨(AX (Ap ZX BD) 400).1 _ _ _ _ (by kernel_rfl),ZX⟩
def T5:List Ent:=⟨30,[.lst 76 .sh []],[],(.lst 76 .sh [],[])⟩::T4
theorem Za:∀e∈T5,e.ok:=List.forall_mem_cons.2 ⟨(AX (Ap ZY BD) 400).1 _ _ _ _ (by kernel_rfl),ZY⟩
def T6:List Ent:=⟨33,[.str [115,115,115,112],.lst 76 .sh [],.int .i64 0],[],(.tup [.int .i64 0,.bool false,.int .i64 0],[])⟩::T5
theorem Zb:∀e∈T6,e.ok:=List.forall_mem_cons.2 ⟨(AX (Ap Za BD) 400).1 _ _ _ _ (by kernel_rfl),Za⟩
def T7:List Ent:=⟨33,[.str [115,115,115,112],.lst 76 .sh [],.int .i64 1],[],(.tup [.int .i64 0,.bool false,.int .i64 0],[])⟩::T6
theorem Zc:∀e∈T7,e.ok:=List.forall_mem_cons.2 ⟨(AX (Ap Zb BD) 400).1 _ _ _ _ (by kernel_rfl),Zb⟩
def T8:List Ent:=⟨31,[.lst 68 .sh [.agg 67 [.int .i64 0,.int .i64 0,.bool true,.bool false,.int .i64 0],.agg 67 [.int .i64 1,.int .i64 (-1),.bool true,.bool false,.int .i64 0]],.clo 32 [.ref 5 [] 35,.ref 7 [] 45,.ref 9 [] 64]],[.agg 31 [.int .i64 2,.lst 29 .sh [.agg 28 [.int .i64 0,.int .i64 1,.int .i64 5]]],.agg 33 [.str [115,115,115,112],.int .i64 0,.int .i64 3],.agg 31 [.int .i64 2,.lst 29 .sh [.agg 28 [.int .i64 0,.int .i64 1,.int .i64 5]]],.agg 33 [.str [115,115,115,112],.int .i64 0,.int .i64 3],.agg 65 [.agg 31 [.int .i64 2,.lst 29 .sh [.agg 28 [.int .i64 0,.int .i64 1,.int .i64 5]]],.agg 33 [.str [115,115,115,112],.int .i64 0,.int .i64 3],.int .i64 1,.int .i64 0,.int .i64 0,.lst 68 .nil [],.lst 68 .own [.agg 67 [.int .i64 0,.int .i64 0,.bool true,.bool false,.int .i64 0],.agg 67 [.int .i64 1,.int .i64 (-1),.bool true,.bool false,.int .i64 0]],.bool false],.ref 4 [] 66,.int .i64 0,.lst 76 .sh [],.agg 49 [.int .i64 0,.str [],.lst 9 .nil []],.lst 68 .nil [],.lst 68 .nil [],.lst 76 .nil []],(.int .i64 0,[.agg 31 [.int .i64 2,.lst 29 .sh [.agg 28 [.int .i64 0,.int .i64 1,.int .i64 5]]],.agg 33 [.str [115,115,115,112],.int .i64 0,.int .i64 3],.agg 31 [.int .i64 2,.lst 29 .sh [.agg 28 [.int .i64 0,.int .i64 1,.int .i64 5]]],.agg 33 [.str [115,115,115,112],.int .i64 0,.int .i64 3],.agg 65 [.agg 31 [.int .i64 2,.lst 29 .sh [.agg 28 [.int .i64 0,.int .i64 1,.int .i64 5]]],.agg 33 [.str [115,115,115,112],.int .i64 0,.int .i64 3],.int .i64 1,.int .i64 0,.int .i64 0,.lst 68 .nil [],.lst 68 .own [.agg 67 [.int .i64 0,.int .i64 0,.bool true,.bool false,.int .i64 0],.agg 67 [.int .i64 1,.int .i64 (-1),.bool true,.bool false,.int .i64 0]],.bool false],.ref 4 [] 66,.int .i64 0,.lst 76 .sh [],.agg 49 [.int .i64 0,.str [],.lst 9 .nil []],.lst 68 .own [.agg 67 [.int .i64 0,.int .i64 0,.bool true,.bool false,.int .i64 0],.agg 67 [.int .i64 1,.int .i64 (-1),.bool true,.bool false,.int .i64 0]],.lst 68 .nil [],.lst 76 .nil []])⟩::T7
theorem Zd:∀e∈T8,e.ok:=List.forall_mem_cons.2 ⟨(AX (Ap Zc BD) 400).1 _ _ _ _ (by kernel_rfl),Zc⟩
def T9:List Ent:=⟨35,[.agg 31 [.int .i64 2,.lst 29 .sh [.agg 28 [.int .i64 0,.int .i64 1,.int .i64 5]]],.agg 33 [.str [115,115,115,112],.int .i64 0,.int .i64 3],.int .i64 0,.agg 67 [.int .i64 0,.int .i64 0,.bool true,.bool false,.int .i64 0]],[],(.tup [.agg 67 [.int .i64 0,.int .i64 0,.bool false,.bool false,.int .i64 0],.lst 76 .sh [.agg 75 [.int .i64 0,.int .i64 1,.int .i64 5]],.int .i64 0],[])⟩::T8
theorem Ze:∀e∈T9,e.ok:=List.forall_mem_cons.2 ⟨(AX (Ap Zd BD) 400).1 _ _ _ _ (by kernel_rfl),Zd⟩
def T10:List Ent:=⟨35,[.agg 31 [.int .i64 2,.lst 29 .sh [.agg 28 [.int .i64 0,.int .i64 1,.int .i64 5]]],.agg 33 [.str [115,115,115,112],.int .i64 0,.int .i64 3],.int .i64 0,.agg 67 [.int .i64 1,.int .i64 (-1),.bool true,.bool false,.int .i64 0]],[],(.tup [.agg 67 [.int .i64 1,.int .i64 (-1),.bool false,.bool false,.int .i64 0],.lst 76 .sh [],.int .i64 0],[])⟩::T9
theorem Vq:∀e∈T10,e.ok:=List.forall_mem_cons.2 ⟨(AX (Ap Ze BD) 400).1 _ _ _ _ (by kernel_rfl),Ze⟩
def T11:List Ent:=⟨31,[.lst 68 .sh [.agg 67 [.int .i64 0,.int .i64 0,.bool true,.bool false,.int .i64 0],.agg 67 [.int .i64 1,.int .i64 (-1),.bool true,.bool false,.int .i64 0]],.clo 34 [.ref 5 [] 35,.ref 6 [] 3,.ref 10 [] 64,.ref 11 [] 45]],[.agg 31 [.int .i64 2,.lst 29 .sh [.agg 28 [.int .i64 0,.int .i64 1,.int .i64 5]]],.agg 33 [.str [115,115,115,112],.int .i64 0,.int .i64 3],.agg 31 [.int .i64 2,.lst 29 .sh [.agg 28 [.int .i64 0,.int .i64 1,.int .i64 5]]],.agg 33 [.str [115,115,115,112],.int .i64 0,.int .i64 3],.agg 65 [.agg 31 [.int .i64 2,.lst 29 .sh [.agg 28 [.int .i64 0,.int .i64 1,.int .i64 5]]],.agg 33 [.str [115,115,115,112],.int .i64 0,.int .i64 3],.int .i64 1,.int .i64 0,.int .i64 0,.lst 68 .nil [],.lst 68 .own [.agg 67 [.int .i64 0,.int .i64 0,.bool true,.bool false,.int .i64 0],.agg 67 [.int .i64 1,.int .i64 (-1),.bool true,.bool false,.int .i64 0]],.bool false],.ref 4 [] 66,.int .i64 0,.lst 76 .sh [],.agg 49 [.int .i64 0,.str [],.lst 9 .nil []],.lst 68 .own [.agg 67 [.int .i64 0,.int .i64 0,.bool true,.bool false,.int .i64 0],.agg 67 [.int .i64 1,.int .i64 (-1),.bool true,.bool false,.int .i64 0]],.lst 68 .nil [],.lst 76 .nil []],(.int .i64 0,[.agg 31 [.int .i64 2,.lst 29 .sh [.agg 28 [.int .i64 0,.int .i64 1,.int .i64 5]]],.agg 33 [.str [115,115,115,112],.int .i64 0,.int .i64 3],.agg 31 [.int .i64 2,.lst 29 .sh [.agg 28 [.int .i64 0,.int .i64 1,.int .i64 5]]],.agg 33 [.str [115,115,115,112],.int .i64 0,.int .i64 3],.agg 65 [.agg 31 [.int .i64 2,.lst 29 .sh [.agg 28 [.int .i64 0,.int .i64 1,.int .i64 5]]],.agg 33 [.str [115,115,115,112],.int .i64 0,.int .i64 3],.int .i64 1,.int .i64 0,.int .i64 0,.lst 68 .nil [],.lst 68 .own [.agg 67 [.int .i64 0,.int .i64 0,.bool true,.bool false,.int .i64 0],.agg 67 [.int .i64 1,.int .i64 (-1),.bool true,.bool false,.int .i64 0]],.bool false],.ref 4 [] 66,.int .i64 0,.lst 76 .sh [],.agg 49 [.int .i64 0,.str [],.lst 9 .nil []],.lst 68 .own [.agg 67 [.int .i64 0,.int .i64 0,.bool true,.bool false,.int .i64 0],.agg 67 [.int .i64 1,.int .i64 (-1),.bool true,.bool false,.int .i64 0]],.lst 68 .own [.agg 67 [.int .i64 0,.int .i64 0,.bool false,.bool false,.int .i64 0],.agg 67 [.int .i64 1,.int .i64 (-1),.bool false,.bool false,.int .i64 0]],.lst 76 .own [.agg 75 [.int .i64 0,.int .i64 1,.int .i64 5]]])⟩::T10
theorem Vr:∀e∈T11,e.ok:=List.forall_mem_cons.2 ⟨(AX (Ap Vq BD) 400).1 _ _ _ _ (by kernel_rfl),Vq⟩
def T12:List Ent:=⟨30,[.lst 76 .sh [.agg 75 [.int .i64 0,.int .i64 1,.int .i64 5]]],[],(.lst 76 .sh [.agg 75 [.int .i64 0,.int .i64 1,.int .i64 5]],[])⟩::T11
theorem Vs:∀e∈T12,e.ok:=List.forall_mem_cons.2 ⟨(AX (Ap Vr BD) 400).1 _ _ _ _ (by kernel_rfl),Vr⟩
def T13:List Ent:=⟨36,[.int .i64 1,.lst 76 .sh [.agg 75 [.int .i64 0,.int .i64 1,.int .i64 5]]],[],(.tup [.lst 45 .sh [.lst 76 .sh [.agg 75 [.int .i64 0,.int .i64 1,.int .i64 5]]],.int .i64 0],[])⟩::T12
theorem Vt:∀e∈T13,e.ok:=List.forall_mem_cons.2 ⟨(AX (Ap Vs BD) 400).1 _ _ _ _ (by kernel_rfl),Vs⟩
def T14:List Ent:=⟨42,[.lst 68 .sh [.agg 67 [.int .i64 0,.int .i64 0,.bool false,.bool false,.int .i64 0],.agg 67 [.int .i64 1,.int .i64 (-1),.bool false,.bool false,.int .i64 0]]],[],(.lst 9 .sh [.str [0,0,0,0,0],.str [1,1,0,0,0]],[])⟩::T13
theorem Vu:∀e∈T14,e.ok:=List.forall_mem_cons.2 ⟨(AX (Ap Vt BD) 400).1 _ _ _ _ (by kernel_rfl),Vt⟩
def T15:List Ent:=⟨21,[.lst 68 .sh [.agg 67 [.int .i64 0,.int .i64 0,.bool false,.bool false,.int .i64 0],.agg 67 [.int .i64 1,.int .i64 (-1),.bool false,.bool false,.int .i64 0]]],[],(.agg 39 (by8 [122,108,79,21,176,240,237,199,155,2,210,19,58,124,119,200,225,82,232,215,247,145,243,145,125,218,178,100,224,26,96,18]),[])⟩::T14
theorem Vw:∀e∈T15,e.ok:=List.forall_mem_cons.2 ⟨(AX (Ap Vu BD) 400).1 _ _ _ _ (by kernel_rfl),Vu⟩
def T16:List Ent:=⟨27,[.lst 76 .sh [.agg 75 [.int .i64 0,.int .i64 1,.int .i64 5]]],[],(.agg 39 (by8 [42,237,57,191,39,46,253,156,91,120,169,228,39,137,60,170,135,93,169,73,212,32,122,104,196,31,46,52,187,254,72,237]),[])⟩::T15
theorem Vx:∀e∈T16,e.ok:=List.forall_mem_cons.2 ⟨(AX (Ap Vw BD) 400).1 _ _ _ _ (by kernel_rfl),Vw⟩
def T17:List Ent:=⟨37,[.int .i64 0,.int .i64 0,.lst 68 .sh [.agg 67 [.int .i64 0,.int .i64 0,.bool false,.bool false,.int .i64 0],.agg 67 [.int .i64 1,.int .i64 (-1),.bool false,.bool false,.int .i64 0]],.lst 45 .sh [.lst 76 .sh [.agg 75 [.int .i64 0,.int .i64 1,.int .i64 5]]]],[],(.tup [.agg 43 [.int .i64 0,.int .i64 0,.agg 39 (by8 [122,108,79,21,176,240,237,199,155,2,210,19,58,124,119,200,225,82,232,215,247,145,243,145,125,218,178,100,224,26,96,18]),.lst 40 .sh [.agg 39 (by8 [42,237,57,191,39,46,253,156,91,120,169,228,39,137,60,170,135,93,169,73,212,32,122,104,196,31,46,52,187,254,72,237])]],.int .i64 0],[])⟩::T16
theorem Vy:∀e∈T17,e.ok:=List.forall_mem_cons.2 ⟨(AX (Ap Vx BD) 400).1 _ _ _ _ (by kernel_rfl),Vx⟩
def T18:List Ent:=⟨38,[.agg 43 [.int .i64 0,.int .i64 0,.agg 39 (by8 [122,108,79,21,176,240,237,199,155,2,210,19,58,124,119,200,225,82,232,215,247,145,243,145,125,218,178,100,224,26,96,18]),.lst 40 .sh [.agg 39 (by8 [42,237,57,191,39,46,253,156,91,120,169,228,39,137,60,170,135,93,169,73,212,32,122,104,196,31,46,52,187,254,72,237])]]],[],(.tup [.str [67,0,0,122,108,79,21,176,240,237,199,155,2,210,19,58,124,119,200,225,82,232,215,247,145,243,145,125,218,178,100,224,26,96,18,1,42,237,57,191,39,46,253,156,91,120,169,228,39,137,60,170,135,93,169,73,212,32,122,104,196,31,46,52,187,254,72,237],.int .i64 0],[])⟩::T17
theorem Vz:∀e∈T18,e.ok:=List.forall_mem_cons.2 ⟨(AX (Ap Vy BD) 400).1 _ _ _ _ (by kernel_rfl),Vy⟩
def T19:List Ent:=⟨39,[.lst 76 .sh [.agg 75 [.int .i64 0,.int .i64 1,.int .i64 5]]],[],(.tup [.str [1,3,0,1,10],.int .i64 0],[])⟩::T18
theorem V3:∀e∈T19,e.ok:=List.forall_mem_cons.2 ⟨(AX (Ap Vz BD) 400).1 _ _ _ _ (by kernel_rfl),Vz⟩
def T20:List Ent:=⟨12,[.ref 4 [] 66,.int .i64 0,.lst 76 .sh []],[.agg 31 [.int .i64 2,.lst 29 .sh [.agg 28 [.int .i64 0,.int .i64 1,.int .i64 5]]],.agg 33 [.str [115,115,115,112],.int .i64 0,.int .i64 3],.agg 31 [.int .i64 2,.lst 29 .sh [.agg 28 [.int .i64 0,.int .i64 1,.int .i64 5]]],.agg 33 [.str [115,115,115,112],.int .i64 0,.int .i64 3],.agg 65 [.agg 31 [.int .i64 2,.lst 29 .sh [.agg 28 [.int .i64 0,.int .i64 1,.int .i64 5]]],.agg 33 [.str [115,115,115,112],.int .i64 0,.int .i64 3],.int .i64 1,.int .i64 0,.int .i64 0,.lst 68 .nil [],.lst 68 .own [.agg 67 [.int .i64 0,.int .i64 0,.bool true,.bool false,.int .i64 0],.agg 67 [.int .i64 1,.int .i64 (-1),.bool true,.bool false,.int .i64 0]],.bool false]],(.agg 49 [.int .i64 0,.str [67,0,0,122,108,79,21,176,240,237,199,155,2,210,19,58,124,119,200,225,82,232,215,247,145,243,145,125,218,178,100,224,26,96,18,1,42,237,57,191,39,46,253,156,91,120,169,228,39,137,60,170,135,93,169,73,212,32,122,104,196,31,46,52,187,254,72,237],.lst 9 .sh [.str [1,3,0,1,10]]],[.agg 31 [.int .i64 2,.lst 29 .sh [.agg 28 [.int .i64 0,.int .i64 1,.int .i64 5]]],.agg 33 [.str [115,115,115,112],.int .i64 0,.int .i64 3],.agg 31 [.int .i64 2,.lst 29 .sh [.agg 28 [.int .i64 0,.int .i64 1,.int .i64 5]]],.agg 33 [.str [115,115,115,112],.int .i64 0,.int .i64 3],.agg 65 [.agg 31 [.int .i64 2,.lst 29 .sh [.agg 28 [.int .i64 0,.int .i64 1,.int .i64 5]]],.agg 33 [.str [115,115,115,112],.int .i64 0,.int .i64 3],.int .i64 1,.int .i64 0,.int .i64 1,.lst 68 .sh [.agg 67 [.int .i64 0,.int .i64 0,.bool true,.bool false,.int .i64 0],.agg 67 [.int .i64 1,.int .i64 (-1),.bool true,.bool false,.int .i64 0]],.lst 68 .sh [.agg 67 [.int .i64 0,.int .i64 0,.bool false,.bool false,.int .i64 0],.agg 67 [.int .i64 1,.int .i64 (-1),.bool false,.bool false,.int .i64 0]],.bool true]])⟩::T19
theorem V4:∀e∈T20,e.ok:=List.forall_mem_cons.2 ⟨(AX (Ap V3 BD) 400).1 _ _ _ _ (by kernel_rfl),V3⟩
def T21:List Ent:=⟨22,[.str [67,0,0,122,108,79,21,176,240,237,199,155,2,210,19,58,124,119,200,225,82,232,215,247,145,243,145,125,218,178,100,224,26,96,18,1,42,237,57,191,39,46,253,156,91,120,169,228,39,137,60,170,135,93,169,73,212,32,122,104,196,31,46,52,187,254,72,237]],[],(.tup [.agg 43 [.int .i64 0,.int .i64 0,.agg 39 (by8 [122,108,79,21,176,240,237,199,155,2,210,19,58,124,119,200,225,82,232,215,247,145,243,145,125,218,178,100,224,26,96,18]),.lst 40 .sh [.agg 39 (by8 [42,237,57,191,39,46,253,156,91,120,169,228,39,137,60,170,135,93,169,73,212,32,122,104,196,31,46,52,187,254,72,237])]],.int .i64 0],[])⟩::T20
theorem V5:∀e∈T21,e.ok:=List.forall_mem_cons.2 ⟨(AX (Ap V4 BD) 400).1 _ _ _ _ (by kernel_rfl),V4⟩
def T22:List Ent:=⟨24,[.str [1,3,0,1,10]],[],(.tup [.lst 76 .sh [.agg 75 [.int .i64 0,.int .i64 1,.int .i64 5]],.int .i64 0],[])⟩::T21
theorem V6:∀e∈T22,e.ok:=List.forall_mem_cons.2 ⟨(AX (Ap V5 BD) 400).1 _ _ _ _ (by kernel_rfl),V5⟩
def T23:List Ent:=⟨29,[.agg 31 [.int .i64 2,.lst 29 .sh [.agg 28 [.int .i64 0,.int .i64 1,.int .i64 5]]],.lst 76 .sh [.agg 75 [.int .i64 0,.int .i64 1,.int .i64 5]]],[],(.int .i64 0,[])⟩::T22
theorem V7:∀e∈T23,e.ok:=List.forall_mem_cons.2 ⟨(AX (Ap V6 BD) 400).1 _ _ _ _ (by kernel_rfl),V6⟩
def T24:List Ent:=⟨11,[.agg 31 [.int .i64 2,.lst 29 .sh [.agg 28 [.int .i64 0,.int .i64 1,.int .i64 5]]],.agg 33 [.str [115,115,115,112],.int .i64 0,.int .i64 3],.int .i64 1,.int .i64 0,.int .i64 0,.agg 49 [.int .i64 0,.str [67,0,0,122,108,79,21,176,240,237,199,155,2,210,19,58,124,119,200,225,82,232,215,247,145,243,145,125,218,178,100,224,26,96,18,1,42,237,57,191,39,46,253,156,91,120,169,228,39,137,60,170,135,93,169,73,212,32,122,104,196,31,46,52,187,254,72,237],.lst 9 .sh [.str [1,3,0,1,10]]]],[],(.tup [.agg 43 [.int .i64 0,.int .i64 0,.agg 39 (by8 [122,108,79,21,176,240,237,199,155,2,210,19,58,124,119,200,225,82,232,215,247,145,243,145,125,218,178,100,224,26,96,18]),.lst 40 .sh [.agg 39 (by8 [42,237,57,191,39,46,253,156,91,120,169,228,39,137,60,170,135,93,169,73,212,32,122,104,196,31,46,52,187,254,72,237])]],.lst 76 .sh [.agg 75 [.int .i64 0,.int .i64 1,.int .i64 5]],.int .i64 0],[])⟩::T23
theorem V8:∀e∈T24,e.ok:=List.forall_mem_cons.2 ⟨(AX (Ap V7 BD) 400).1 _ _ _ _ (by kernel_rfl),V7⟩
def T25:List Ent:=⟨41,[.lst 9 .sh [.str [0,0,1,0,0],.str [1,1,1,0,0]],.int .i64 1],[],(.tup [.lst 40 .sh [.agg 39 (by8 [16,72,125,134,206,53,132,225,86,135,78,217,178,101,14,141,119,42,141,31,219,177,201,17,27,247,226,251,202,177,140,203])],.int .i64 0],[])⟩::T24
theorem V9:∀e∈T25,e.ok:=List.forall_mem_cons.2 ⟨(AX (Ap V8 BD) 400).1 _ _ _ _ (by kernel_rfl),V8⟩
def T26:List Ent:=⟨41,[.lst 9 .sh [.str [0,0,0,0,0],.str [1,1,0,0,0]],.int .i64 1],[],(.tup [.lst 40 .sh [.agg 39 (by8 [176,246,106,220,131,100,21,134,101,104,102,129,63,217,221,11,142,187,99,121,96,117,102,27,164,93,26,168,8,158,29,68])],.int .i64 0],[])⟩::T25
theorem WA:∀e∈T26,e.ok:=List.forall_mem_cons.2 ⟨(AX (Ap V9 BD) 400).1 _ _ _ _ (by kernel_rfl),V9⟩
def T27:List Ent:=⟨13,[.ref 4 [] 66,.int .i64 1],[.agg 31 [.int .i64 2,.lst 29 .sh [.agg 28 [.int .i64 0,.int .i64 1,.int .i64 5]]],.agg 33 [.str [115,115,115,112],.int .i64 0,.int .i64 3],.agg 31 [.int .i64 2,.lst 29 .sh [.agg 28 [.int .i64 0,.int .i64 1,.int .i64 5]]],.agg 33 [.str [115,115,115,112],.int .i64 0,.int .i64 3],.agg 65 [.agg 31 [.int .i64 2,.lst 29 .sh [.agg 28 [.int .i64 0,.int .i64 1,.int .i64 5]]],.agg 33 [.str [115,115,115,112],.int .i64 0,.int .i64 3],.int .i64 1,.int .i64 0,.int .i64 1,.lst 68 .sh [.agg 67 [.int .i64 0,.int .i64 0,.bool true,.bool false,.int .i64 0],.agg 67 [.int .i64 1,.int .i64 (-1),.bool true,.bool false,.int .i64 0]],.lst 68 .sh [.agg 67 [.int .i64 0,.int .i64 0,.bool false,.bool false,.int .i64 0],.agg 67 [.int .i64 1,.int .i64 (-1),.bool false,.bool false,.int .i64 0]],.bool true],.agg 39 (by8 [150,43,153,188,10,22,125,174,31,250,120,209,18,105,255,193,73,34,213,37,202,22,214,2,72,242,199,202,168,105,70,3]),.agg 43 [.int .i64 0,.int .i64 0,.agg 39 (by8 [122,108,79,21,176,240,237,199,155,2,210,19,58,124,119,200,225,82,232,215,247,145,243,145,125,218,178,100,224,26,96,18]),.lst 40 .sh [.agg 39 (by8 [42,237,57,191,39,46,253,156,91,120,169,228,39,137,60,170,135,93,169,73,212,32,122,104,196,31,46,52,187,254,72,237])]]],(.tup [.agg 52 [.int .i64 1,.str [1,1,1,0,0],.str [1,1,0,0,0],.lst 40 .sh [.agg 39 (by8 [16,72,125,134,206,53,132,225,86,135,78,217,178,101,14,141,119,42,141,31,219,177,201,17,27,247,226,251,202,177,140,203])],.lst 40 .sh [.agg 39 (by8 [176,246,106,220,131,100,21,134,101,104,102,129,63,217,221,11,142,187,99,121,96,117,102,27,164,93,26,168,8,158,29,68])]],.int .i64 0],[.agg 31 [.int .i64 2,.lst 29 .sh [.agg 28 [.int .i64 0,.int .i64 1,.int .i64 5]]],.agg 33 [.str [115,115,115,112],.int .i64 0,.int .i64 3],.agg 31 [.int .i64 2,.lst 29 .sh [.agg 28 [.int .i64 0,.int .i64 1,.int .i64 5]]],.agg 33 [.str [115,115,115,112],.int .i64 0,.int .i64 3],.agg 65 [.agg 31 [.int .i64 2,.lst 29 .sh [.agg 28 [.int .i64 0,.int .i64 1,.int .i64 5]]],.agg 33 [.str [115,115,115,112],.int .i64 0,.int .i64 3],.int .i64 1,.int .i64 0,.int .i64 1,.lst 68 .sh [.agg 67 [.int .i64 0,.int .i64 0,.bool true,.bool false,.int .i64 0],.agg 67 [.int .i64 1,.int .i64 (-1),.bool true,.bool false,.int .i64 0]],.lst 68 .sh [.agg 67 [.int .i64 0,.int .i64 0,.bool false,.bool false,.int .i64 0],.agg 67 [.int .i64 1,.int .i64 (-1),.bool false,.bool false,.int .i64 0]],.bool true],.agg 39 (by8 [150,43,153,188,10,22,125,174,31,250,120,209,18,105,255,193,73,34,213,37,202,22,214,2,72,242,199,202,168,105,70,3]),.agg 43 [.int .i64 0,.int .i64 0,.agg 39 (by8 [122,108,79,21,176,240,237,199,155,2,210,19,58,124,119,200,225,82,232,215,247,145,243,145,125,218,178,100,224,26,96,18]),.lst 40 .sh [.agg 39 (by8 [42,237,57,191,39,46,253,156,91,120,169,228,39,137,60,170,135,93,169,73,212,32,122,104,196,31,46,52,187,254,72,237])]]])⟩::T26
theorem WB:∀e∈T27,e.ok:=List.forall_mem_cons.2 ⟨(AX (Ap WA BD) 400).1 _ _ _ _ (by kernel_rfl),WA⟩
def T28:List Ent:=⟨43,[.agg 39 (by8 [150,43,153,188,10,22,125,174,31,250,120,209,18,105,255,193,73,34,213,37,202,22,214,2,72,242,199,202,168,105,70,3]),.int .i64 2,.int .i64 1,.str [1,1,1,0,0],.lst 40 .sh [.agg 39 (by8 [16,72,125,134,206,53,132,225,86,135,78,217,178,101,14,141,119,42,141,31,219,177,201,17,27,247,226,251,202,177,140,203])]],[],(.bool true,[])⟩::T27
theorem WC:∀e∈T28,e.ok:=List.forall_mem_cons.2 ⟨(AX (Ap WB BD) 400).1 _ _ _ _ (by kernel_rfl),WB⟩
def T29:List Ent:=⟨43,[.agg 39 (by8 [122,108,79,21,176,240,237,199,155,2,210,19,58,124,119,200,225,82,232,215,247,145,243,145,125,218,178,100,224,26,96,18]),.int .i64 2,.int .i64 1,.str [1,1,0,0,0],.lst 40 .sh [.agg 39 (by8 [176,246,106,220,131,100,21,134,101,104,102,129,63,217,221,11,142,187,99,121,96,117,102,27,164,93,26,168,8,158,29,68])]],[],(.bool true,[])⟩::T28
theorem WE:∀e∈T29,e.ok:=List.forall_mem_cons.2 ⟨(AX (Ap WC BD) 400).1 _ _ _ _ (by kernel_rfl),WC⟩
def T30:List Ent:=⟨44,[.str [1,1,1,0,0]],[],(.tup [.agg 67 [.int .i64 1,.int .i64 (-1),.bool true,.bool false,.int .i64 0],.int .i64 0],[])⟩::T29
theorem WH:∀e∈T30,e.ok:=List.forall_mem_cons.2 ⟨(AX (Ap WE BD) 400).1 _ _ _ _ (by kernel_rfl),WE⟩
def T31:List Ent:=⟨46,[.lst 76 .sh [.agg 75 [.int .i64 0,.int .i64 1,.int .i64 5]],.int .i64 1],[],(.lst 76 .sh [],[])⟩::T30
theorem WI:∀e∈T31,e.ok:=List.forall_mem_cons.2 ⟨(AX (Ap WH BD) 400).1 _ _ _ _ (by kernel_rfl),WH⟩
def T32:List Ent:=⟨14,[.agg 31 [.int .i64 2,.lst 29 .sh [.agg 28 [.int .i64 0,.int .i64 1,.int .i64 5]]],.agg 33 [.str [115,115,115,112],.int .i64 0,.int .i64 3],.int .i64 1,.int .i64 0,.int .i64 0,.agg 39 (by8 [150,43,153,188,10,22,125,174,31,250,120,209,18,105,255,193,73,34,213,37,202,22,214,2,72,242,199,202,168,105,70,3]),.agg 39 (by8 [122,108,79,21,176,240,237,199,155,2,210,19,58,124,119,200,225,82,232,215,247,145,243,145,125,218,178,100,224,26,96,18]),.lst 76 .sh [],.lst 76 .sh [.agg 75 [.int .i64 0,.int .i64 1,.int .i64 5]],.agg 52 [.int .i64 1,.str [1,1,1,0,0],.str [1,1,0,0,0],.lst 40 .sh [.agg 39 (by8 [16,72,125,134,206,53,132,225,86,135,78,217,178,101,14,141,119,42,141,31,219,177,201,17,27,247,226,251,202,177,140,203])],.lst 40 .sh [.agg 39 (by8 [176,246,106,220,131,100,21,134,101,104,102,129,63,217,221,11,142,187,99,121,96,117,102,27,164,93,26,168,8,158,29,68])]]],[],(.int .i64 0,[])⟩::T31
theorem WJ:∀e∈T32,e.ok:=List.forall_mem_cons.2 ⟨(AX (Ap WI BD) 400).1 _ _ _ _ (by kernel_rfl),WI⟩
def T33:List Ent:=⟨43,[.agg 39 (by8 [122,108,79,21,176,240,237,199,155,2,210,19,58,124,119,200,225,82,232,215,247,145,243,145,125,218,178,100,224,26,96,18]),.int .i64 2,.int .i64 1,.str [1,1,1,0,0],.lst 40 .sh [.agg 39 (by8 [176,246,106,220,131,100,21,134,101,104,102,129,63,217,221,11,142,187,99,121,96,117,102,27,164,93,26,168,8,158,29,68])]],[],(.bool false,[])⟩::T32
theorem WL:∀e∈T33,e.ok:=List.forall_mem_cons.2 ⟨(AX (Ap WJ BD) 400).1 _ _ _ _ (by kernel_rfl),WJ⟩
def T34:List Ent:=⟨14,[.agg 31 [.int .i64 2,.lst 29 .sh [.agg 28 [.int .i64 0,.int .i64 1,.int .i64 5]]],.agg 33 [.str [115,115,115,112],.int .i64 0,.int .i64 3],.int .i64 1,.int .i64 0,.int .i64 0,.agg 39 (by8 [150,43,153,188,10,22,125,174,31,250,120,209,18,105,255,193,73,34,213,37,202,22,214,2,72,242,199,202,168,105,70,3]),.agg 39 (by8 [122,108,79,21,176,240,237,199,155,2,210,19,58,124,119,200,225,82,232,215,247,145,243,145,125,218,178,100,224,26,96,18]),.lst 76 .sh [],.lst 76 .sh [.agg 75 [.int .i64 0,.int .i64 1,.int .i64 5]],.agg 52 [.int .i64 1,.str [1,1,1,0,0],.str [1,1,1,0,0],.lst 40 .sh [.agg 39 (by8 [16,72,125,134,206,53,132,225,86,135,78,217,178,101,14,141,119,42,141,31,219,177,201,17,27,247,226,251,202,177,140,203])],.lst 40 .sh [.agg 39 (by8 [176,246,106,220,131,100,21,134,101,104,102,129,63,217,221,11,142,187,99,121,96,117,102,27,164,93,26,168,8,158,29,68])]]],[],(.int .i64 144,[])⟩::T33
theorem WM:∀e∈T34,e.ok:=List.forall_mem_cons.2 ⟨(AX (Ap WL BD) 400).1 _ _ _ _ (by kernel_rfl),WL⟩
def T35:List Ent:=⟨7,[.int .i64 3,.int .i64 (-1),.lst 58 .sh []],[],(.lst 3 .sh [.int .i64 0,.int .i64 1,.int .i64 2],[])⟩::T34
theorem AAL:∀e∈T35,e.ok:=List.forall_mem_cons.2 ⟨(AX (Ap WM BD) 400).1 _ _ _ _ (by kernel_rfl),WM⟩
theorem YQ:Cl 5 [] []=some (.bool true,[]):=(AX (Ap AAL BD) 400).1 _ _ _ _ (by kernel_rfl)
end
section
open Go AM
theorem WN (n k:Int) (D:List Nat):(Eb n k D).length≤64:=by
 unfold Eb
 split
 ·have:=List.length_filter_le (EM n.toNat k D) (List.range n.toNat)
  rw[List.length_range]at this
  omega
 ·simp
theorem cpU {D:List Nat} (hl:D.length≤1000000) (h:List V) (f:Fl) (hf:f= .sh∨f= .nil):VI 58 (AM.tyI .u32) false h (.lst 58 .own []) (vU f D)=some (vU .own D):=by
 have pl:LP (D.map fun(d:Nat)=>V.int .u32 (d:Int))=true:=RQ (fun _=>rfl) D
 unfold vU
 rw[RS (Tn pl) (all_map (fun _=>rfl) D) (by simp;omega),List.nil_append]
 rfl
theorem MH {α:Type} [DecidableEq α]:∀{l m:List α},l.Nodup→(∀x∈l,x∈m)→l.length≤m.length
 |[],_,_,_=>Nat.zero_le _
 |x::l,m,hn,hs=>by
  rw[List.nodup_cons]at hn
  have h1:=MH (l:=l) (m:=m.erase x) hn.2 fun y hy=>(List.mem_erase_of_ne (fun e=>hn.1 (by rw[←e];exact hy))).2 (hs y (List.mem_cons_of_mem _ hy))
  have h2:=List.length_erase_of_mem (hs x List.mem_cons_self)
  have h3:0<m.length:=List.length_pos_of_mem (hs x List.mem_cons_self)
  simp only[List.length_cons];omega
theorem MI {n:Nat} {D:List Nat} {a:Nat}:∀{m i:Nat},PS n D a m i=true→∃j,j<i+m∧i≤j∧D.getD j 0%n=a
 |0,i,h=>by cases h
 |m+1,i,h=>by
  rw[PS,Bool.or_eq_true]at h
  rcases h with h|h
  ·exact⟨i,by omega,by omega,of_decide_eq_true h⟩
  ·obtain⟨j,a,b,c⟩:=MI h
   exact⟨j,by omega,by omega,c⟩
theorem YR {n:Nat} {k:Nat} {D:List Nat} (hk:k<n):((List.range n).filter (EM n k D)).length≤k:=by
 have h:=MH (l:=(List.range n).filter (EM n k D)) (m:=(List.range k).map fun i=>D.getD i 0%n) (List.nodup_range.filter _) fun x hx=>by
  rw[List.mem_filter]at hx
  have h2:=hx.2
  rw[EM,decide_eq_false (by omega),Bool.false_or]at h2
  obtain⟨j,a,b,c⟩:=MI h2
  exact List.mem_map.2 ⟨j,List.mem_range.2 (by simp at a;omega),c⟩
 simpa using h
theorem YS {n:Nat} {k:Nat} {D:List Nat} (hn:1≤n) (hk:0<k):0<((List.range n).filter (EM n k D)).length:=by
 refine List.length_pos_of_mem (a:=D.getD 0 0%n) (List.mem_filter.2 ⟨List.mem_range.2 (Nat.mod_lt _ hn),?_⟩)
 obtain⟨q,rfl⟩:∃q,k=q+1:=⟨k-1,by omega⟩
 rw[EM,Int.toNat_natCast,PS,drw,decide_eq_true rfl,Bool.true_or,Bool.or_true]
theorem YT {n:Nat} {k:Int} {D:List Nat} (hk:k<0∨(n:Int)≤k):(List.range n).filter (EM n k D)=List.range n:=by
 refine List.filter_eq_self.2 fun x _=> ?_
 rw[EM,decide_eq_true hk,Bool.true_or]
theorem WO {n k:Int} {D:List Nat}:∀x∈Eb n k D,(x:Int)<n:=by
 intro x hx
 unfold Eb at hx
 split at hx
 ·have:=List.mem_range.1 (List.mem_filter.1 hx).1;omega
 ·cases hx
theorem YU {n k:Int} {D:List Nat}:∀(i j:Nat) (hi:i<(Eb n k D).length) (hj:j<(Eb n k D).length),i<j→(Eb n k D)[i]<(Eb n k D)[j]:=by
 have hp:(Eb n k D).Pairwise (·<·):=by
  unfold Eb
  split
  ·exact List.Pairwise.filter _ List.pairwise_lt_range
  ·exact List.Pairwise.nil
 exact fun i j hi hj hij=>List.pairwise_iff_getElem.1 hp i j hi hj hij
def Nc (n k:Int) (m:Nat):Bool:=if n<1∨64<n then decide (m=0)else if k<0∨n≤k then decide ((m:Int)=n)else decide ((m:Int)≤k)&&(decide (k=0)||decide (0<m))
theorem YV (n k:Int) (D:List Nat):Nc n k (Eb n k D).length=true:=by
 unfold Nc Eb
 by_cases c:n<1∨64<n
 ·rw[if_pos c,if_neg (by omega)];rfl
 ·have cp:1≤n∧n≤64:=by omega
  rw[if_neg c]
  simp only[if_pos cp]
  obtain⟨q,rfl⟩:=Int.eq_ofNat_of_zero_le (show 0≤n by omega)
  rw[Int.toNat_natCast]
  by_cases c2:k<0∨(q:Int)≤k
  ·rw[if_pos c2,YT c2,List.length_range];simp
  ·rw[if_neg c2]
   obtain⟨z,rfl⟩:=Int.eq_ofNat_of_zero_le (show 0≤k by omega)
   have h1:=YR (n:=q) (k:=z) (D:=D) (by omega)
   rw[decide_eq_true (by omega),Bool.true_and]
   by_cases h0:z=0
   ·subst h0;simp
   ·have h2:=YS (n:=q) (k:=z) (D:=D) (by omega) (by omega)
    rw[decide_eq_true (p:=0<_) h2,Bool.or_true]
theorem AAM {n k:Int} {l:List Nat} (hn:l.length≤1000000) (hr:∀x∈l,(x:Int)<n) (hu:∀(i j:Nat) (hi:i<l.length) (hj:j<l.length),i<j→l[i]<l[j]) (he:Nc n k l.length=true):∀(m i:Nat),i+m=l.length→
 RV (.int .i64 n) (.int .i64 k) (Na l) (.int .i64 (i:Int))=some (.bool true,[]):=by
 intro m
 induction m with
 |zero=>
  intro i hi
  have ls:AO .lss (.int .i64 (i:Int)) (.int .i64 ((l.map fun(a:Nat)=>V.int .i64 (a:Int)).length:Int))=some (.bool false):=by rw[b_lss,List.length_map,decide_eq_false (by omega)]
  have hz:(l.map fun(a:Nat)=>V.int .i64 (a:Int)).length=l.length:=List.length_map _
  rw[OQ]
  clear hr hu
  unfold Na at*
  generalize (l.map fun(a:Nat)=>V.int .i64 (a:Int))=L at*
  rw[←hz]at he
  clear hz hn hi
  unfold Nc at he
  by_cases c1:n<1
  ·rw[if_pos (.inl c1)]at he
   have a1:AO .lss (.int .i64 n) (.int .i64 1)=some (.bool true):=by rw[b_lss,decide_eq_true c1]
   have e0:AO .eql (.int .i64 (L.length:Int)) (.int .i64 0)=some (.bool true):=by rw[b_eql,decide_eq_true (by have:=of_decide_eq_true he;omega)]
   (repeat' with_reducible first|refine(Bc _ _).trans ?_|refine(Bo _ _).trans ?_|refine(AV _ _).trans ?_|((first|(refine' (AB ?_ _).trans ?_;rotate_left)|refine(if_pos ?_).trans ?_|refine(Az ?_ _ _).trans ?_);focus (first|rfl|(simp(disch:=first|assumption|omega|with_reducible rfl|(simp only[go_sem]<;>omega)|fail) only[↓reduceIte,↓AV,Nat.reduceAdd,go_sem,Bool.not_true,Bool.not_false,ls,a1,e0]<;>first|rfl|omega)|assumption|omega))|(refine(Ak ?_ _ _).trans ?_;focus (first|(simp(disch:=first|assumption|omega|with_reducible rfl|(simp only[go_sem]<;>omega)|fail) only[↓reduceIte,↓AV,Nat.reduceAdd,go_sem,Bool.not_true,Bool.not_false,ls,a1,e0]<;>omega)|assumption|omega))|fail)
   rfl
  have a1:AO .lss (.int .i64 n) (.int .i64 1)=some (.bool false):=by rw[b_lss,decide_eq_false c1]
  by_cases c2:64<n
  ·rw[if_pos (.inr c2)]at he
   have a2:AO .gtr (.int .i64 n) (.int .i64 64)=some (.bool true):=by rw[b_gtr,decide_eq_true c2]
   have e0:AO .eql (.int .i64 (L.length:Int)) (.int .i64 0)=some (.bool true):=by rw[b_eql,decide_eq_true (by have:=of_decide_eq_true he;omega)]
   (repeat' with_reducible first|refine(Bc _ _).trans ?_|refine(Bo _ _).trans ?_|refine(AV _ _).trans ?_|((first|(refine' (AB ?_ _).trans ?_;rotate_left)|refine(if_pos ?_).trans ?_|refine(Az ?_ _ _).trans ?_);focus (first|rfl|(simp(disch:=first|assumption|omega|with_reducible rfl|(simp only[go_sem]<;>omega)|fail) only[↓reduceIte,↓AV,Nat.reduceAdd,go_sem,Bool.not_true,Bool.not_false,ls,a1,a2,e0]<;>first|rfl|omega)|assumption|omega))|(refine(Ak ?_ _ _).trans ?_;focus (first|(simp(disch:=first|assumption|omega|with_reducible rfl|(simp only[go_sem]<;>omega)|fail) only[↓reduceIte,↓AV,Nat.reduceAdd,go_sem,Bool.not_true,Bool.not_false,ls,a1,a2,e0]<;>omega)|assumption|omega))|fail)
   rfl
  have a2:AO .gtr (.int .i64 n) (.int .i64 64)=some (.bool false):=by rw[b_gtr,decide_eq_false c2]
  rw[if_neg (by omega)]at he
  by_cases c3:k<0
  ·rw[if_pos (.inl c3)]at he
   have a3:AO .lss (.int .i64 k) (.int .i64 0)=some (.bool true):=by rw[b_lss,decide_eq_true c3]
   have e0:AO .eql (.int .i64 (L.length:Int)) (.int .i64 n)=some (.bool true):=by rw[b_eql,decide_eq_true (of_decide_eq_true he)]
   (repeat' with_reducible first|refine(Bc _ _).trans ?_|refine(Bo _ _).trans ?_|refine(AV _ _).trans ?_|((first|(refine' (AB ?_ _).trans ?_;rotate_left)|refine(if_pos ?_).trans ?_|refine(Az ?_ _ _).trans ?_);focus (first|rfl|(simp(disch:=first|assumption|omega|with_reducible rfl|(simp only[go_sem]<;>omega)|fail) only[↓reduceIte,↓AV,Nat.reduceAdd,go_sem,Bool.not_true,Bool.not_false,ls,a1,a2,a3,e0]<;>first|rfl|omega)|assumption|omega))|(refine(Ak ?_ _ _).trans ?_;focus (first|(simp(disch:=first|assumption|omega|with_reducible rfl|(simp only[go_sem]<;>omega)|fail) only[↓reduceIte,↓AV,Nat.reduceAdd,go_sem,Bool.not_true,Bool.not_false,ls,a1,a2,a3,e0]<;>omega)|assumption|omega))|fail)
   rfl
  have a3:AO .lss (.int .i64 k) (.int .i64 0)=some (.bool false):=by rw[b_lss,decide_eq_false c3]
  by_cases c4:n≤k
  ·rw[if_pos (.inr c4)]at he
   have a4:AO .geq (.int .i64 k) (.int .i64 n)=some (.bool true):=by rw[b_geq,decide_eq_true c4]
   have e0:AO .eql (.int .i64 (L.length:Int)) (.int .i64 n)=some (.bool true):=by rw[b_eql,decide_eq_true (of_decide_eq_true he)]
   (repeat' with_reducible first|refine(Bc _ _).trans ?_|refine(Bo _ _).trans ?_|refine(AV _ _).trans ?_|((first|(refine' (AB ?_ _).trans ?_;rotate_left)|refine(if_pos ?_).trans ?_|refine(Az ?_ _ _).trans ?_);focus (first|rfl|(simp(disch:=first|assumption|omega|with_reducible rfl|(simp only[go_sem]<;>omega)|fail) only[↓reduceIte,↓AV,Nat.reduceAdd,go_sem,Bool.not_true,Bool.not_false,ls,a1,a2,a3,a4,e0]<;>first|rfl|omega)|assumption|omega))|(refine(Ak ?_ _ _).trans ?_;focus (first|(simp(disch:=first|assumption|omega|with_reducible rfl|(simp only[go_sem]<;>omega)|fail) only[↓reduceIte,↓AV,Nat.reduceAdd,go_sem,Bool.not_true,Bool.not_false,ls,a1,a2,a3,a4,e0]<;>omega)|assumption|omega))|fail)
   rfl
  have a4:AO .geq (.int .i64 k) (.int .i64 n)=some (.bool false):=by rw[b_geq,decide_eq_false c4]
  rw[if_neg (by omega)]at he
  simp only[Bool.and_eq_true,Bool.or_eq_true,decide_eq_true_eq]at he
  have a5:AO .leq (.int .i64 (L.length:Int)) (.int .i64 k)=some (.bool true):=by rw[b_leq,decide_eq_true he.1]
  by_cases c6:k=0
  ·have a6:AO .eql (.int .i64 k) (.int .i64 0)=some (.bool true):=by rw[b_eql,decide_eq_true c6]
   (repeat' with_reducible first|refine(Bc _ _).trans ?_|refine(Bo _ _).trans ?_|refine(AV _ _).trans ?_|((first|(refine' (AB ?_ _).trans ?_;rotate_left)|refine(if_pos ?_).trans ?_|refine(Az ?_ _ _).trans ?_);focus (first|rfl|(simp(disch:=first|assumption|omega|with_reducible rfl|(simp only[go_sem]<;>omega)|fail) only[↓reduceIte,↓AV,Nat.reduceAdd,go_sem,Bool.not_true,Bool.not_false,ls,a1,a2,a3,a4,a5,a6]<;>first|rfl|omega)|assumption|omega))|(refine(Ak ?_ _ _).trans ?_;focus (first|(simp(disch:=first|assumption|omega|with_reducible rfl|(simp only[go_sem]<;>omega)|fail) only[↓reduceIte,↓AV,Nat.reduceAdd,go_sem,Bool.not_true,Bool.not_false,ls,a1,a2,a3,a4,a5,a6]<;>omega)|assumption|omega))|fail)
   rfl
  ·have a6:AO .eql (.int .i64 k) (.int .i64 0)=some (.bool false):=by rw[b_eql,decide_eq_false c6]
   have a7:AO .gtr (.int .i64 (L.length:Int)) (.int .i64 0)=some (.bool true):=by rw[b_gtr,decide_eq_true (by omega)]
   (repeat' with_reducible first|refine(Bc _ _).trans ?_|refine(Bo _ _).trans ?_|refine(AV _ _).trans ?_|((first|(refine' (AB ?_ _).trans ?_;rotate_left)|refine(if_pos ?_).trans ?_|refine(Az ?_ _ _).trans ?_);focus (first|rfl|(simp(disch:=first|assumption|omega|with_reducible rfl|(simp only[go_sem]<;>omega)|fail) only[↓reduceIte,↓AV,Nat.reduceAdd,go_sem,Bool.not_true,Bool.not_false,ls,a1,a2,a3,a4,a5,a6,a7]<;>first|rfl|omega)|assumption|omega))|(refine(Ak ?_ _ _).trans ?_;focus (first|(simp(disch:=first|assumption|omega|with_reducible rfl|(simp only[go_sem]<;>omega)|fail) only[↓reduceIte,↓AV,Nat.reduceAdd,go_sem,Bool.not_true,Bool.not_false,ls,a1,a2,a3,a4,a5,a6,a7]<;>omega)|assumption|omega))|fail)
   rfl
 |succ m ih=>
  intro i hi
  have h:i<l.length:=by omega
  have ls:AO .lss (.int .i64 (i:Int)) (.int .i64 ((l.map fun(a:Nat)=>V.int .i64 (a:Int)).length:Int))=some (.bool true):=by rw[b_lss,List.length_map,decide_eq_true (by omega)]
  have ix:∀j:Nat,(hj:j<l.length)→Tm 3 (Na l) (.int .i64 (j:Int))=some (.rop 3 (.int .i64 (l[j]:Int))):=fun j hj=>by
   rw[Na,Lm,List.getElem?_map,List.getElem?_eq_getElem hj];rfl
  have ixi:=ix i h
  have ad:AO .add (.int .i64 (i:Int)) (.int .i64 1)=some (.int .i64 ((i+1:Nat):Int)):=by rw[Ey,wrap_i64 (by omega) (by omega)];rfl
  have ld:∀(h:List V) (x:V),BI h 3 (.rop 3 x)=some x:=fun h x=>by simp only[BI,if_true]
  have hx:=hr _ (List.getElem_mem h)
  have b1:AO .lss (.int .i64 (l[i]:Int)) (.int .i64 0)=some (.bool false):=by rw[b_lss,decide_eq_false (by omega)]
  have b2:AO .geq (.int .i64 (l[i]:Int)) (.int .i64 n)=some (.bool false):=by rw[b_geq,decide_eq_false (by omega)]
  rw[←ih (i+1) (by omega),OQ]
  clear ih
  by_cases h0:i=0
  ·subst h0
   have b3:AO .gtr (.int .i64 ((0:Nat):Int)) (.int .i64 0)=some (.bool false):=rfl
   clear hr hu ix
   unfold Na at*
   generalize l[0]=x at*
   generalize (0+1:Nat)=i2 at*
   generalize (l.map fun(a:Nat)=>V.int .i64 (a:Int))=L at*
   generalize ((0:Nat):Int)=zz at*
   (repeat' with_reducible first|refine(Bc _ _).trans ?_|refine(Bo _ _).trans ?_|refine(AV _ _).trans ?_|((first|(refine' (AB ?_ _).trans ?_;rotate_left)|refine(if_pos ?_).trans ?_|refine(Az ?_ _ _).trans ?_);focus (first|rfl|(simp(disch:=first|assumption|omega|with_reducible rfl|(simp only[go_sem]<;>omega)|fail) only[↓reduceIte,↓AV,Nat.reduceAdd,go_sem,Bool.not_true,Bool.not_false,ls,ixi,ld,b1,b2,b3,ad]<;>first|rfl|omega)|assumption|omega))|(refine(Ak ?_ _ _).trans ?_;focus (first|(simp(disch:=first|assumption|omega|with_reducible rfl|(simp only[go_sem]<;>omega)|fail) only[↓reduceIte,↓AV,Nat.reduceAdd,go_sem,Bool.not_true,Bool.not_false,ls,ixi,ld,b1,b2,b3,ad]<;>omega)|assumption|omega))|fail)
   rfl
  ·have b3:AO .gtr (.int .i64 (i:Int)) (.int .i64 0)=some (.bool true):=by rw[b_gtr,decide_eq_true (by omega)]
   have sb:AO .sub (.int .i64 (i:Int)) (.int .i64 1)=some (.int .i64 ((i-1:Nat):Int)):=by rw[Je,wrap_i64 (by omega) (by omega)];congr 2;omega
   have ixp:=ix (i-1) (by omega)
   have hlt:=hu (i-1) i (by omega) h (by omega)
   have b4:AO .geq (.int .i64 (l[i-1]:Int)) (.int .i64 (l[i]:Int))=some (.bool false):=by rw[b_geq,decide_eq_false (by omega)]
   clear hr hu ix
   unfold Na at*
   generalize l[i-1]=x0 at*
   generalize (i-1:Nat)=i0 at*
   generalize l[i]=x at*
   generalize (i+1:Nat)=i2 at*
   generalize (l.map fun(a:Nat)=>V.int .i64 (a:Int))=L at*
   (repeat' with_reducible first|refine(Bc _ _).trans ?_|refine(Bo _ _).trans ?_|refine(AV _ _).trans ?_|((first|(refine' (AB ?_ _).trans ?_;rotate_left)|refine(if_pos ?_).trans ?_|refine(Az ?_ _ _).trans ?_);focus (first|rfl|(simp(disch:=first|assumption|omega|with_reducible rfl|(simp only[go_sem]<;>omega)|fail) only[↓reduceIte,↓AV,Nat.reduceAdd,go_sem,Bool.not_true,Bool.not_false,ls,ixi,ld,b1,b2,b3,sb,ixp,b4,ad]<;>first|rfl|omega)|assumption|omega))|(refine(Ak ?_ _ _).trans ?_;focus (first|(simp(disch:=first|assumption|omega|with_reducible rfl|(simp only[go_sem]<;>omega)|fail) only[↓reduceIte,↓AV,Nat.reduceAdd,go_sem,Bool.not_true,Bool.not_false,ls,ixi,ld,b1,b2,b3,sb,ixp,b4,ad]<;>omega)|assumption|omega))|fail)
   rfl
theorem PX (n k:Int) {D:List Nat} (hD:∀d∈D,d<4294967296):Cl 4 [.int .i64 n,.int .i64 k,vU .sh D] []=some (.bool true,[]):=by
 have hA:=YQ
 have wk:(vU .sh D).weak=vU .sh D:=rfl
 have nt:un .not (.bool true)=some (.bool false):=rfl
 have lL:VG (vU .sh D)=some (.int .i64 (D.length:Int)):=by show some _=_;rw[List.length_map]
 by_cases c1:100<D.length
 ·have g1:AO .gtr (.int .i64 (D.length:Int)) (.int .i64 100)=some (.bool true):=by rw[b_gtr,decide_eq_true (by omega)]
  rw[VL,wk]
  generalize vU .sh D=L at*
  (repeat' with_reducible first|refine(Bc _ _).trans ?_|refine(Bo _ _).trans ?_|refine(AV _ _).trans ?_|((first|(refine' (AB ?_ _).trans ?_;rotate_left)|refine(if_pos ?_).trans ?_|refine(Az ?_ _ _).trans ?_);focus (first|rfl|(simp(disch:=first|assumption|omega|with_reducible rfl|(simp only[go_sem]<;>omega)|fail) only[↓reduceIte,↓AV,Nat.reduceAdd,go_sem,Bool.not_true,Bool.not_false,hA,nt,lL,g1]<;>first|rfl|omega)|assumption|omega))|(refine(Ak ?_ _ _).trans ?_;focus (first|(simp(disch:=first|assumption|omega|with_reducible rfl|(simp only[go_sem]<;>omega)|fail) only[↓reduceIte,↓AV,Nat.reduceAdd,go_sem,Bool.not_true,Bool.not_false,hA,nt,lL,g1]<;>omega)|assumption|omega))|fail)
  rfl
 have g1:AO .gtr (.int .i64 (D.length:Int)) (.int .i64 100)=some (.bool false):=by rw[b_gtr,decide_eq_false (by omega)]
 by_cases c2:100<k
 ·have g2:AO .gtr (.int .i64 k) (.int .i64 100)=some (.bool true):=by rw[b_gtr,decide_eq_true c2]
  rw[VL,wk]
  generalize vU .sh D=L at*
  (repeat' with_reducible first|refine(Bc _ _).trans ?_|refine(Bo _ _).trans ?_|refine(AV _ _).trans ?_|((first|(refine' (AB ?_ _).trans ?_;rotate_left)|refine(if_pos ?_).trans ?_|refine(Az ?_ _ _).trans ?_);focus (first|rfl|(simp(disch:=first|assumption|omega|with_reducible rfl|(simp only[go_sem]<;>omega)|fail) only[↓reduceIte,↓AV,Nat.reduceAdd,go_sem,Bool.not_true,Bool.not_false,hA,nt,lL,g1,g2]<;>first|rfl|omega)|assumption|omega))|(refine(Ak ?_ _ _).trans ?_;focus (first|(simp(disch:=first|assumption|omega|with_reducible rfl|(simp only[go_sem]<;>omega)|fail) only[↓reduceIte,↓AV,Nat.reduceAdd,go_sem,Bool.not_true,Bool.not_false,hA,nt,lL,g1,g2]<;>omega)|assumption|omega))|fail)
  rfl
 have g2:AO .gtr (.int .i64 k) (.int .i64 100)=some (.bool false):=by rw[b_gtr,decide_eq_false c2]
 have cp:=fun h=>cpU (D:=D) (by omega) h .sh (.inl rfl)
 have pa:=UA (n:=n) (k:=k) hD (by omega) (by omega)
 have lp:=AAM (n:=n) (k:=k) (l:=Eb n k D) (by have:=WN n k D;omega) WO YU (YV n k D) (Eb n k D).length 0 (by omega)
 have r1:∀h,AP h [.int .i64 n,.int .i64 k,vU .own D]=[.int .i64 n,.int .i64 k,vU .sh D]:=fun _=>rfl
 rw[←lp,VL,wk]
 clear lp
 generalize Na (Eb n k D)=PL at*
 generalize vU .own D=L2 at*
 generalize vU .sh D=L at*
 (repeat' with_reducible first|refine(Bc _ _).trans ?_|refine(Bo _ _).trans ?_|refine(AV _ _).trans ?_|((first|(refine' (AB ?_ _).trans ?_;rotate_left)|refine(if_pos ?_).trans ?_|refine(Az ?_ _ _).trans ?_);focus (first|rfl|(simp(disch:=first|assumption|omega|with_reducible rfl|(simp only[go_sem]<;>omega)|fail) only[↓reduceIte,↓AV,Nat.reduceAdd,go_sem,Bool.not_true,Bool.not_false,hA,nt,lL,g1,g2,cp,r1,pa]<;>first|rfl|omega)|assumption|omega))|(refine(Ak ?_ _ _).trans ?_;focus (first|(simp(disch:=first|assumption|omega|with_reducible rfl|(simp only[go_sem]<;>omega)|fail) only[↓reduceIte,↓AV,Nat.reduceAdd,go_sem,Bool.not_true,Bool.not_false,hA,nt,lL,g1,g2,cp,r1,pa]<;>omega)|assumption|omega))|fail)
 rfl
end
end Go.Proofs.YtkelgdjhpgefnaaGreatDoor
