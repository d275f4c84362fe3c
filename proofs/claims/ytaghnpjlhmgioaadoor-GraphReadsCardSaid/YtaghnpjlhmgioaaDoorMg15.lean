/-
  Part of the proof of a statement about the given program: an abstract machine over its code, the simulation, its functions' equations, what they compute.
-/
import Derived.Test.YtaghnpjlhmgioaaDoorMg14
import Derived.Test.YtaghnpjlhmgioaaDoorMg5
import Derived.Test.YtaghnpjlhmgioaaDoorMg9
set_option linter.unusedVariables false
set_option linter.unusedSimpArgs false
set_option linter.unusedSectionVars false
set_option maxRecDepth 100000
noncomputable section
namespace Go.Proofs.YtaghnpjlhmgioaaDoor
section
open Go AM
section
variable {s:List UInt8} {fr n m0:Nat} {N:Int} {f:Fl} {acc:List E0} {p:List UInt8} {ps:List (List UInt8)} {ns:List Nat}
theorem AIL (hf:f= .own∨f= .nil) (hn:2≤n) (hn2:n≤5000) (ha:acc.length≤5000) {a b c:Nat}:
 Fa (.str s) (.ref 0 [] 24) (.ref 1 [] 24) (.int .i64 (fr:Int)) (.int .i64 (n:Int)) (.lst 9 .sh ((C9::ps).map V.str)) (DN .own [a,b,c]) (.int .i64 ((ps.length+1:Nat):Int)) m0 (Eg N f acc)=
  GN (.str s) (.ref 0 [] 24) (.ref 1 [] 24) (.int .i64 (fr:Int)) (.int .i64 ((n+1:Nat):Int)) (Eg N .own (acc++[⟨a,b,c⟩])):=by
 have ll:Jr (V.weak (.lst 9 .sh ((C9::ps).map V.str)))=some (.int .i64 ((ps.length+1:Nat):Int)):=by
  have:((C9::ps).map V.str).length=ps.length+1:=by simp
  rw[←this];rfl
 have ls:AL .lss (.int .i64 ((ps.length+1:Nat):Int)) (.int .i64 ((ps.length+1:Nat):Int))=some (.bool false):=by rw[b_lss,decide_eq_false (by omega)]
 have e1:AL .eql (.int .i64 (n:Int)) (.int .i64 1)=some (.bool false):=by rw[b_eql,decide_eq_false (by omega)]
 have g1:AL .gtr (.int .i64 (n:Int)) (.int .i64 1)=some (.bool true):=by rw[b_gtr,decide_eq_true (by omega)]
 have ix:D6 9 (.lst 9 .sh ((C9::ps).map V.str)) (.int .i64 0)=some (.rop 9 (.str C9)):=Ip (by simp) .i64
 have ew:AL .eql (.str C9) (.str [101,100,103,101])=some (.bool true):=rfl
 have l3:Jr (V.weak (DN .own [a,b,c]))=some (.int .i64 3):=rfl
 have e3:AL .eql (.int .i64 3) (.int .i64 3)=some (.bool true):=rfl
 have ad:AL .add (.int .i64 (n:Int)) (.int .i64 1)=some (.int .i64 ((n+1:Nat):Int)):=by
  rw[DZ,Ad (by omega) (by omega)];rfl
 have tk:∀(z x0:V) (rs:List V) (f:Fl),CX [z,.agg 23 [x0,.lst 45 f rs]] 22 (.ref 1 [1] 22)=some (.lst 45 f rs,[z,.agg 23 [x0,.lst 45 f.wk rs]]):=
  fun z x0 rs f=>OJ (h:=[z,.agg 23 [x0,.lst 45 f rs]]) (id:=1) rfl rfl
 have sb1:Gt (.ref 1 [] 24) (.ref 1 [1] 22)=true:=rfl
 have lw:∀x,MP true [.rop 3 (.int .i64 x)]=true:=fun _=>rfl
 have i0:D6 3 (V.weak (DN .own [a,b,c])) (.int .i64 0)=some (.rop 3 (.int .i64 (a:Int))):=rfl
 have i1:D6 3 (V.weak (DN .own [a,b,c])) (.int .i64 1)=some (.rop 3 (.int .i64 (b:Int))):=rfl
 have i2:D6 3 (V.weak (DN .own [a,b,c])) (.int .i64 2)=some (.rop 3 (.int .i64 (c:Int))):=rfl
 have hm:(acc++[(⟨a,b,c⟩:E0)]).map GK=acc.map GK++[GK ⟨a,b,c⟩]:=by simp
 rw[Dk,Eg,Eg,hm]
 generalize (C9::ps).map V.str=W at*
 generalize C9=ew0 at*
 generalize ps.length+1=L at*
 generalize n+1=n1 at*
 generalize hv:DN .own [a,b,c]=v3 at*
 refine(AB ll _).trans ?_
 refine(AB ls _).trans ?_
 rw[Aa]
 simp only[GK]
 rcases hf with rfl|rfl
 all_goals (repeat' with_reducible first|refine(Af _ _).trans ?_|refine(Aa _ _).trans ?_|refine(AA _ _).trans ?_|((first|(refine' (AB ?_ _).trans ?_;rotate_left)|refine(if_pos ?_).trans ?_|refine(AQ ?_ _ _).trans ?_);focus (first|rfl|(simp(disch:=first|assumption|omega|with_reducible rfl|(simp only[go_sem]<;>omega)|fail) only[↓reduceIte,↓AA,Nat.reduceAdd,go_sem,Bool.not_true,Bool.not_false,e1,g1,ix,ew,l3,e3,ad,tk,sb1,lw,i0,i1,i2,Fb,Fe]<;>first|rfl|omega)|assumption|omega))|(refine(AO ?_ _ _).trans ?_;focus (first|(simp(disch:=first|assumption|omega|with_reducible rfl|(simp only[go_sem]<;>omega)|fail) only[↓reduceIte,↓AA,Nat.reduceAdd,go_sem,Bool.not_true,Bool.not_false,e1,g1,ix,ew,l3,e3,ad,tk,sb1,lw,i0,i1,i2,Fb,Fe]<;>omega)|assumption|omega))|fail)
 all_goals rfl
theorem AIM (hf:f= .own∨f= .nil) (hn:2≤n) (hp:¬(p=C9∧ns.length=3)):
 Fa (.str s) (.ref 0 [] 24) (.ref 1 [] 24) (.int .i64 (fr:Int)) (.int .i64 (n:Int)) (.lst 9 .sh ((p::ps).map V.str)) (DN .own ns) (.int .i64 ((ps.length+1:Nat):Int)) m0 (Eg N f acc)=ACD n:=by
 have ll:Jr (V.weak (.lst 9 .sh ((p::ps).map V.str)))=some (.int .i64 ((ps.length+1:Nat):Int)):=by
  have:((p::ps).map V.str).length=ps.length+1:=by simp
  rw[←this];rfl
 have ls:AL .lss (.int .i64 ((ps.length+1:Nat):Int)) (.int .i64 ((ps.length+1:Nat):Int))=some (.bool false):=by rw[b_lss,decide_eq_false (by omega)]
 have e1:AL .eql (.int .i64 (n:Int)) (.int .i64 1)=some (.bool false):=by rw[b_eql,decide_eq_false (by omega)]
 have g1:AL .gtr (.int .i64 (n:Int)) (.int .i64 1)=some (.bool true):=by rw[b_gtr,decide_eq_true (by omega)]
 have ix:D6 9 (.lst 9 .sh ((p::ps).map V.str)) (.int .i64 0)=some (.rop 9 (.str p)):=Ip (by simp) .i64
 have l3:Jr (V.weak (DN .own ns))=some (.int .i64 (ns.length:Int)):=by
  have:(ns.map fun(v:Nat)=>V.int .i64 (v:Int)).length=ns.length:=by simp
  rw[←this];rfl
 by_cases hw:p=C9
 ·have ew:AL .eql (.str p) (.str [101,100,103,101])=some (.bool true):=by rw[hw];rfl
  have e3:AL .eql (.int .i64 (ns.length:Int)) (.int .i64 3)=some (.bool false):=by rw[b_eql,decide_eq_false (by have:¬ns.length=3:=fun h=>hp ⟨hw,h⟩;omega)]
  rw[Dk]
  clear hw hp
  generalize (p::ps).map V.str=W at*
  generalize ps.length+1=L at*
  generalize ns.length=k at*
  generalize DN .own ns=v3 at*
  refine(AB ll _).trans ?_
  refine(AB ls _).trans ?_
  rw[Aa]
  rcases hf with rfl|rfl
  all_goals (repeat' with_reducible first|refine(Af _ _).trans ?_|refine(Aa _ _).trans ?_|refine(AA _ _).trans ?_|((first|(refine' (AB ?_ _).trans ?_;rotate_left)|refine(if_pos ?_).trans ?_|refine(AQ ?_ _ _).trans ?_);focus (first|rfl|(simp(disch:=first|assumption|omega|with_reducible rfl|(simp only[go_sem]<;>omega)|fail) only[↓reduceIte,↓AA,Nat.reduceAdd,go_sem,Bool.not_true,Bool.not_false,e1,g1,ix,ew,l3,e3]<;>first|rfl|omega)|assumption|omega))|(refine(AO ?_ _ _).trans ?_;focus (first|(simp(disch:=first|assumption|omega|with_reducible rfl|(simp only[go_sem]<;>omega)|fail) only[↓reduceIte,↓AA,Nat.reduceAdd,go_sem,Bool.not_true,Bool.not_false,e1,g1,ix,ew,l3,e3]<;>omega)|assumption|omega))|fail)
  all_goals rfl
 ·have ew:AL .eql (.str p) (.str [101,100,103,101])=some (.bool false):=by
   have:¬p=[101,100,103,101]:=hw
   simp[AL,this]
  rw[Dk]
  clear hw hp l3
  generalize (p::ps).map V.str=W at*
  generalize ps.length+1=L at*
  generalize DN .own ns=v3 at*
  refine(AB ll _).trans ?_
  refine(AB ls _).trans ?_
  rw[Aa]
  rcases hf with rfl|rfl
  all_goals (repeat' with_reducible first|refine(Af _ _).trans ?_|refine(Aa _ _).trans ?_|refine(AA _ _).trans ?_|((first|(refine' (AB ?_ _).trans ?_;rotate_left)|refine(if_pos ?_).trans ?_|refine(AQ ?_ _ _).trans ?_);focus (first|rfl|(simp(disch:=first|assumption|omega|with_reducible rfl|(simp only[go_sem]<;>omega)|fail) only[↓reduceIte,↓AA,Nat.reduceAdd,go_sem,Bool.not_true,Bool.not_false,e1,g1,ix,ew]<;>first|rfl|omega)|assumption|omega))|(refine(AO ?_ _ _).trans ?_;focus (first|(simp(disch:=first|assumption|omega|with_reducible rfl|(simp only[go_sem]<;>omega)|fail) only[↓reduceIte,↓AA,Nat.reduceAdd,go_sem,Bool.not_true,Bool.not_false,e1,g1,ix,ew]<;>omega)|assumption|omega))|fail)
  all_goals rfl
theorem AIN {a:Nat}:
 Fa (.str s) (.ref 0 [] 24) (.ref 1 [] 24) (.int .i64 (fr:Int)) (.int .i64 ((1:Nat):Int)) (.lst 9 .sh ((BR::ps).map V.str)) (DN .own [a]) (.int .i64 ((ps.length+1:Nat):Int)) m0 (Eg 0 .nil [])=
  GN (.str s) (.ref 0 [] 24) (.ref 1 [] 24) (.int .i64 (fr:Int)) (.int .i64 ((2:Nat):Int)) (Eg (a:Int) .nil []):=by
 have ll:Jr (V.weak (.lst 9 .sh ((BR::ps).map V.str)))=some (.int .i64 ((ps.length+1:Nat):Int)):=by
  have:((BR::ps).map V.str).length=ps.length+1:=by simp
  rw[←this];rfl
 have ls:AL .lss (.int .i64 ((ps.length+1:Nat):Int)) (.int .i64 ((ps.length+1:Nat):Int))=some (.bool false):=by rw[b_lss,decide_eq_false (by omega)]
 have e1:AL .eql (.int .i64 ((1:Nat):Int)) (.int .i64 1)=some (.bool true):=rfl
 have ix:D6 9 (V.weak (.lst 9 .sh ((BR::ps).map V.str))) (.int .i64 0)=some (.rop 9 (.str BR)):=Ip (f:= .sh) (by simp) .i64
 have ix':D6 9 (.lst 9 .sh ((BR::ps).map V.str)) (.int .i64 0)=some (.rop 9 (.str BR)):=Ip (by simp) .i64
 have ew:AL .eql (.str BR) (.str [103,114,97,112,104])=some (.bool true):=rfl
 have l3:Jr (V.weak (DN .own [a]))=some (.int .i64 1):=rfl
 have e3:AL .eql (.int .i64 1) (.int .i64 1)=some (.bool true):=rfl
 have i0:D6 3 (DN .own [a]) (.int .i64 0)=some (.rop 3 (.int .i64 (a:Int))):=rfl
 have ad:AL .add (.int .i64 ((1:Nat):Int)) (.int .i64 1)=some (.int .i64 ((2:Nat):Int)):=rfl
 rw[Dk]
 generalize (BR::ps).map V.str=W at*
 generalize BR=ew0 at*
 generalize ps.length+1=L at*
 generalize hv:DN .own [a]=v3 at*
 refine(AB ll _).trans ?_
 refine(AB ls _).trans ?_
 rw[Aa]
 (repeat' with_reducible first|refine(Af _ _).trans ?_|refine(Aa _ _).trans ?_|refine(AA _ _).trans ?_|((first|(refine' (AB ?_ _).trans ?_;rotate_left)|refine(if_pos ?_).trans ?_|refine(AQ ?_ _ _).trans ?_);focus (first|rfl|(simp(disch:=first|assumption|omega|with_reducible rfl|(simp only[go_sem]<;>omega)|fail) only[↓reduceIte,↓AA,Nat.reduceAdd,go_sem,Bool.not_true,Bool.not_false,e1,ix,ix',ew,l3,e3,ad,i0]<;>first|rfl|omega)|assumption|omega))|(refine(AO ?_ _ _).trans ?_;focus (first|(simp(disch:=first|assumption|omega|with_reducible rfl|(simp only[go_sem]<;>omega)|fail) only[↓reduceIte,↓AA,Nat.reduceAdd,go_sem,Bool.not_true,Bool.not_false,e1,ix,ix',ew,l3,e3,ad,i0]<;>omega)|assumption|omega))|fail)
 rfl
theorem AIO (hp:¬(p=BR∧ns.length=1)):
 Fa (.str s) (.ref 0 [] 24) (.ref 1 [] 24) (.int .i64 (fr:Int)) (.int .i64 ((1:Nat):Int)) (.lst 9 .sh ((p::ps).map V.str)) (DN .own ns) (.int .i64 ((ps.length+1:Nat):Int)) m0 (Eg 0 .nil [])=ACD 1:=by
 have ll:Jr (V.weak (.lst 9 .sh ((p::ps).map V.str)))=some (.int .i64 ((ps.length+1:Nat):Int)):=by
  have:((p::ps).map V.str).length=ps.length+1:=by simp
  rw[←this];rfl
 have ls:AL .lss (.int .i64 ((ps.length+1:Nat):Int)) (.int .i64 ((ps.length+1:Nat):Int))=some (.bool false):=by rw[b_lss,decide_eq_false (by omega)]
 have e1:AL .eql (.int .i64 ((1:Nat):Int)) (.int .i64 1)=some (.bool true):=rfl
 have g1:AL .gtr (.int .i64 ((1:Nat):Int)) (.int .i64 1)=some (.bool false):=rfl
 have ix:D6 9 (V.weak (.lst 9 .sh ((p::ps).map V.str))) (.int .i64 0)=some (.rop 9 (.str p)):=Ip (f:= .sh) (by simp) .i64
 have ix':D6 9 (.lst 9 .sh ((p::ps).map V.str)) (.int .i64 0)=some (.rop 9 (.str p)):=Ip (by simp) .i64
 have l3:Jr (V.weak (DN .own ns))=some (.int .i64 (ns.length:Int)):=by
  have:(ns.map fun(v:Nat)=>V.int .i64 (v:Int)).length=ns.length:=by simp
  rw[←this];rfl
 by_cases hw:p=BR
 ·have ew:AL .eql (.str p) (.str [103,114,97,112,104])=some (.bool true):=by rw[hw];rfl
  have e3:AL .eql (.int .i64 (ns.length:Int)) (.int .i64 1)=some (.bool false):=by rw[b_eql,decide_eq_false (by have:¬ns.length=1:=fun h=>hp ⟨hw,h⟩;omega)]
  rw[Dk]
  clear hw hp
  generalize (p::ps).map V.str=W at*
  generalize ps.length+1=L at*
  generalize ns.length=k at*
  generalize DN .own ns=v3 at*
  refine(AB ll _).trans ?_
  refine(AB ls _).trans ?_
  rw[Aa]
  (repeat' with_reducible first|refine(Af _ _).trans ?_|refine(Aa _ _).trans ?_|refine(AA _ _).trans ?_|((first|(refine' (AB ?_ _).trans ?_;rotate_left)|refine(if_pos ?_).trans ?_|refine(AQ ?_ _ _).trans ?_);focus (first|rfl|(simp(disch:=first|assumption|omega|with_reducible rfl|(simp only[go_sem]<;>omega)|fail) only[↓reduceIte,↓AA,Nat.reduceAdd,go_sem,Bool.not_true,Bool.not_false,e1,g1,ix,ix',ew,l3,e3]<;>first|rfl|omega)|assumption|omega))|(refine(AO ?_ _ _).trans ?_;focus (first|(simp(disch:=first|assumption|omega|with_reducible rfl|(simp only[go_sem]<;>omega)|fail) only[↓reduceIte,↓AA,Nat.reduceAdd,go_sem,Bool.not_true,Bool.not_false,e1,g1,ix,ix',ew,l3,e3]<;>omega)|assumption|omega))|fail)
  rfl
 ·have ew:AL .eql (.str p) (.str [103,114,97,112,104])=some (.bool false):=by
   have:¬p=[103,114,97,112,104]:=hw
   simp[AL,this]
  rw[Dk]
  clear hw hp l3
  generalize (p::ps).map V.str=W at*
  generalize ps.length+1=L at*
  generalize DN .own ns=v3 at*
  refine(AB ll _).trans ?_
  refine(AB ls _).trans ?_
  rw[Aa]
  (repeat' with_reducible first|refine(Af _ _).trans ?_|refine(Aa _ _).trans ?_|refine(AA _ _).trans ?_|((first|(refine' (AB ?_ _).trans ?_;rotate_left)|refine(if_pos ?_).trans ?_|refine(AQ ?_ _ _).trans ?_);focus (first|rfl|(simp(disch:=first|assumption|omega|with_reducible rfl|(simp only[go_sem]<;>omega)|fail) only[↓reduceIte,↓AA,Nat.reduceAdd,go_sem,Bool.not_true,Bool.not_false,e1,g1,ix,ix',ew]<;>first|rfl|omega)|assumption|omega))|(refine(AO ?_ _ _).trans ?_;focus (first|(simp(disch:=first|assumption|omega|with_reducible rfl|(simp only[go_sem]<;>omega)|fail) only[↓reduceIte,↓AA,Nat.reduceAdd,go_sem,Bool.not_true,Bool.not_false,e1,g1,ix,ix',ew]<;>omega)|assumption|omega))|fail)
  rfl
end
theorem OM {w l p:List UInt8} {k:Nat} {ps:List (List UInt8)} (hp:BD l=p::ps):Dt w k l=if p=w∧ps.length=k then CZ ps else none:=by
 unfold Dt;rw[hp]
theorem OO {ps:List (List UInt8)} {ns:List Nat} (h:CZ ps=some ns):ns.length=ps.length:=by
 rw[(EU h).2,List.length_map]
theorem OQ (l:List UInt8):∃p ps,BD l=p::ps:=by
 have:=EK l
 match BD l,this with
 |p::ps,_=>exact⟨p,ps,rfl⟩
theorem ACE {s:List UInt8} (hs:s.length≤2000):∀(ls:List (List UInt8)) (t:List UInt8) (N:Int) (acc:List E0) (f:Fl) (n fr:Nat),(f= .own∨f= .nil)→2≤n→n+ls.length≤5000→acc.length+ls.length≤5000→(∀l∈ls,(10:UInt8)∉l)→(10:UInt8)∉t→fr≤s.length→s.drop fr=BM ls t→
 GN (.str s) (.ref 0 [] 24) (.ref 1 [] 24) (.int .i64 (fr:Int)) (.int .i64 (n:Int)) (Eg N f acc)=some (Yt (PN N (Dw ls t n acc)),[]):=by
 intro ls
 induction ls with
 |nil=>
  intro t N acc f n fr hf h2 hn ha _ ht hfr he
  rw[BM]at he
  have e1:AL .eql (.int .i64 (n:Int)) (.int .i64 1)=some (.bool false):=by rw[b_eql,decide_eq_false (by omega)]
  have hl:fr+t.length=s.length:=by
   have:=congrArg List.length he
   rw[List.length_drop]at this;omega
  by_cases h0:t=[]
  ·subst h0
   have ls1:AL .lss (.int .i64 (fr:Int)) (.int .i64 (s.length:Int))=some (.bool false):=by rw[b_lss,decide_eq_false (by simp at hl;omega)]
   rw[show Dw [] [] n acc= .inr acc from rfl,PN]
   have ck:=ADs (g:=⟨N,acc⟩) (by simp at ha⊢;omega)
   by_cases hc:EJ ⟨N,acc⟩=0
   ·have nm:=AB9 hc
    have ne:AL .neq (.int .i64 0) (.int .i64 0)=some (.bool false):=rfl
    rw[hc]at ck⊢
    generalize Gu ⟨N,acc⟩=m at*
    rw[Fq]
    rcases hf with rfl|rfl
    all_goals (repeat' with_reducible first|refine(Af _ _).trans ?_|refine(Aa _ _).trans ?_|refine(AA _ _).trans ?_|((first|(refine' (AB ?_ _).trans ?_;rotate_left)|refine(if_pos ?_).trans ?_|refine(AQ ?_ _ _).trans ?_);focus (first|rfl|(simp(disch:=first|assumption|omega|with_reducible rfl|(simp only[go_sem]<;>omega)|fail) only[↓reduceIte,↓AA,Nat.reduceAdd,go_sem,Bool.not_true,Bool.not_false,e1,ls1,ck,ne,nm]<;>first|rfl|omega)|assumption|omega))|(refine(AO ?_ _ _).trans ?_;focus (first|(simp(disch:=first|assumption|omega|with_reducible rfl|(simp only[go_sem]<;>omega)|fail) only[↓reduceIte,↓AA,Nat.reduceAdd,go_sem,Bool.not_true,Bool.not_false,e1,ls1,ck,ne,nm]<;>omega)|assumption|omega))|fail)
    all_goals rfl
   ·have ne:AL .neq (.int .i64 (EJ ⟨N,acc⟩)) (.int .i64 0)=some (.bool true):=by rw[b_neq];simp[hc]
    rw[Gu,if_neg hc]
    generalize EJ ⟨N,acc⟩=e at*
    rw[Fq]
    rcases hf with rfl|rfl
    all_goals (repeat' with_reducible first|refine(Af _ _).trans ?_|refine(Aa _ _).trans ?_|refine(AA _ _).trans ?_|((first|(refine' (AB ?_ _).trans ?_;rotate_left)|refine(if_pos ?_).trans ?_|refine(AQ ?_ _ _).trans ?_);focus (first|rfl|(simp(disch:=first|assumption|omega|with_reducible rfl|(simp only[go_sem]<;>omega)|fail) only[↓reduceIte,↓AA,Nat.reduceAdd,go_sem,Bool.not_true,Bool.not_false,e1,ls1,ck,ne]<;>first|rfl|omega)|assumption|omega))|(refine(AO ?_ _ _).trans ?_;focus (first|(simp(disch:=first|assumption|omega|with_reducible rfl|(simp only[go_sem]<;>omega)|fail) only[↓reduceIte,↓AA,Nat.reduceAdd,go_sem,Bool.not_true,Bool.not_false,e1,ls1,ck,ne]<;>omega)|assumption|omega))|fail)
    all_goals rfl
  ·have hp:0<t.length:=List.length_pos_iff.2 h0
   have ls1:AL .lss (.int .i64 (fr:Int)) (.int .i64 (s.length:Int))=some (.bool true):=by rw[b_lss,decide_eq_true (by omega)]
   have tl:=X7 (s:=s) (by omega) (n:=n) (m0:=2) (N:=N) (acc:=acc) hf hfr he ht
   rw[show Dw [] t n acc= .inl n from if_neg h0,PN]
   refine Eq.trans ?_ tl
   rw[Fq]
   clear tl
   (repeat' with_reducible first|refine(Af _ _).trans ?_|refine(Aa _ _).trans ?_|refine(AA _ _).trans ?_|((first|(refine' (AB ?_ _).trans ?_;rotate_left)|refine(if_pos ?_).trans ?_|refine(AQ ?_ _ _).trans ?_);focus (first|rfl|(simp(disch:=first|assumption|omega|with_reducible rfl|(simp only[go_sem]<;>omega)|fail) only[↓reduceIte,↓AA,Nat.reduceAdd,go_sem,Bool.not_true,Bool.not_false,e1,ls1]<;>first|rfl|omega)|assumption|omega))|(refine(AO ?_ _ _).trans ?_;focus (first|(simp(disch:=first|assumption|omega|with_reducible rfl|(simp only[go_sem]<;>omega)|fail) only[↓reduceIte,↓AA,Nat.reduceAdd,go_sem,Bool.not_true,Bool.not_false,e1,ls1]<;>omega)|assumption|omega))|fail)
   rfl
 |cons l ls ih=>
  intro t N acc f n fr hf h2 hn ha hls ht hfr he
  rw[BM]at he
  rw[List.length_cons]at hn ha
  have hl10:=hls l List.mem_cons_self
  have e1:AL .eql (.int .i64 (n:Int)) (.int .i64 1)=some (.bool false):=by rw[b_eql,decide_eq_false (by omega)]
  have hl:fr+(l.length+1)≤s.length:=by
   have:=congrArg List.length he
   rw[List.length_drop,List.length_append,List.length_cons]at this;omega
  have ls1:AL .lss (.int .i64 (fr:Int)) (.int .i64 (s.length:Int))=some (.bool true):=by rw[b_lss,decide_eq_true (by omega)]
  obtain⟨p,ps,hsp⟩:=OQ l
  have ln:=X6 (s:=s) (by omega) (n:=n) (m0:=2) (N:=N) (acc:=acc) hf he hl10 hsp
  have hd:GN (.str s) (.ref 0 [] 24) (.ref 1 [] 24) (.int .i64 (fr:Int)) (.int .i64 (n:Int)) (Eg N f acc)=GR (.str s) (.ref 0 [] 24) (.ref 1 [] 24) (.int .i64 (fr:Int)) (.int .i64 (n:Int)) (.int .i64 (fr:Int)) 2 (Eg N f acc):=by
   rw[Fq]
   clear ln
   (repeat' with_reducible first|refine(Af _ _).trans ?_|refine(Aa _ _).trans ?_|refine(AA _ _).trans ?_|((first|(refine' (AB ?_ _).trans ?_;rotate_left)|refine(if_pos ?_).trans ?_|refine(AQ ?_ _ _).trans ?_);focus (first|rfl|(simp(disch:=first|assumption|omega|with_reducible rfl|(simp only[go_sem]<;>omega)|fail) only[↓reduceIte,↓AA,Nat.reduceAdd,go_sem,Bool.not_true,Bool.not_false,e1,ls1]<;>first|rfl|omega)|assumption|omega))|(refine(AO ?_ _ _).trans ?_;focus (first|(simp(disch:=first|assumption|omega|with_reducible rfl|(simp only[go_sem]<;>omega)|fail) only[↓reduceIte,↓AA,Nat.reduceAdd,go_sem,Bool.not_true,Bool.not_false,e1,ls1]<;>omega)|assumption|omega))|fail)
   rfl
  rw[hd,ln,Dw,OM hsp]
  cases hns:CZ ps with
  |none=>simp only[ite_self];rfl
  |some ns=>
   have hnl:=OO hns
   dsimp only
   by_cases hpe:p=C9∧ps.length=3
   ·rw[if_pos hpe]
    obtain⟨a,b,c,rfl⟩:∃a b c,ns=[a,b,c]:=by
     match ns,hnl.trans hpe.2 with
     |[a,b,c],_=>exact⟨a,b,c,rfl⟩
    dsimp only
    rw[hpe.1,AIL hf h2 (by omega) (by omega)]
    exact ih t N _ .own (n+1) (fr+l.length+1) (Or.inl rfl) (by omega) (by omega) (by simp;omega) (fun x hx=>hls x (List.mem_cons_of_mem _ hx)) ht (by omega) (Qg he)
   ·rw[if_neg hpe,AIM hf h2 (by rw[hnl];exact hpe)]
    rfl
theorem ACF {ls:List (List UInt8)} {t:List UInt8} (hls:∀l∈ls,(10:UInt8)∉l) (ht:(10:UInt8)∉t) (hl:(BM ls t).length≤2000):
 Cl 25 [.str (BM ls t)] []=some (Yt (Gv ls t),[]):=by
 have e1:AL .eql (.int .i64 ((1:Nat):Int)) (.int .i64 1)=some (.bool true):=rfl
 have hd:∀s:List UInt8,Cl 25 [.str s] []=GR (.str s) (.ref 0 [] 24) (.ref 1 [] 24) (.int .i64 ((0:Nat):Int)) (.int .i64 ((1:Nat):Int)) (.int .i64 ((0:Nat):Int)) 2 (Eg 0 .nil []):=by
  intro s
  have h0:Cl 25 [.str s] []=GN (.str s) (.ref 0 [] 24) (.ref 1 [] 24) (.int .i64 ((0:Nat):Int)) (.int .i64 ((1:Nat):Int)) (Eg 0 .nil []):=by
   rw[AFD]
   (repeat' with_reducible first|refine(Af _ _).trans ?_|refine(Aa _ _).trans ?_|refine(AA _ _).trans ?_|((first|(refine' (AB ?_ _).trans ?_;rotate_left)|refine(if_pos ?_).trans ?_|refine(AQ ?_ _ _).trans ?_);focus (first|rfl|(simp(disch:=first|assumption|omega|with_reducible rfl|(simp only[go_sem]<;>omega)|fail) only[↓reduceIte,↓AA,Nat.reduceAdd,go_sem,Bool.not_true,Bool.not_false]<;>first|rfl|omega)|assumption|omega))|(refine(AO ?_ _ _).trans ?_;focus (first|(simp(disch:=first|assumption|omega|with_reducible rfl|(simp only[go_sem]<;>omega)|fail) only[↓reduceIte,↓AA,Nat.reduceAdd,go_sem,Bool.not_true,Bool.not_false]<;>omega)|assumption|omega))|fail)
   rfl
  rw[h0,Fq]
  clear h0
  (repeat' with_reducible first|refine(Af _ _).trans ?_|refine(Aa _ _).trans ?_|refine(AA _ _).trans ?_|((first|(refine' (AB ?_ _).trans ?_;rotate_left)|refine(if_pos ?_).trans ?_|refine(AQ ?_ _ _).trans ?_);focus (first|rfl|(simp(disch:=first|assumption|omega|with_reducible rfl|(simp only[go_sem]<;>omega)|fail) only[↓reduceIte,↓AA,Nat.reduceAdd,go_sem,Bool.not_true,Bool.not_false,e1]<;>first|rfl|omega)|assumption|omega))|(refine(AO ?_ _ _).trans ?_;focus (first|(simp(disch:=first|assumption|omega|with_reducible rfl|(simp only[go_sem]<;>omega)|fail) only[↓reduceIte,↓AA,Nat.reduceAdd,go_sem,Bool.not_true,Bool.not_false,e1]<;>omega)|assumption|omega))|fail)
  rfl
 rw[hd]
 match ls,hls,hl with
 |[],_,hl=>
  rw[BM]at hl⊢
  rw[X7 (by omega) (Or.inr rfl) (Nat.zero_le _) (by simp) ht,Gv]
 |l::ls,hls,hl=>
  rw[BM]at hl⊢
  obtain⟨p,ps,hsp⟩:=OQ l
  have hfl:=Io ls t
  have hll:l.length+1+(BM ls t).length≤2000:=by rw[List.length_append,List.length_cons]at hl;omega
  rw[X6 (s:=l++10::BM ls t) (fr:=0) (r:=BM ls t) (by omega) (Or.inr rfl) (by simp) (hls l List.mem_cons_self) hsp,Gv,OM hsp]
  cases hns:CZ ps with
  |none=>simp only[ite_self]
  |some ns=>
   have hnl:=OO hns
   dsimp only
   by_cases hpe:p=BR∧ps.length=1
   ·rw[if_pos hpe]
    obtain⟨a,rfl⟩:∃a,ns=[a]:=by
     match ns,hnl.trans hpe.2 with
     |[a],_=>exact⟨a,rfl⟩
    dsimp only
    rw[hpe.1,AIN]
    exact ACE hl ls t (a:Int) [] .nil 2 (0+l.length+1) (Or.inr rfl) (by omega) (by omega) (by simp;omega) (fun x hx=>hls x (List.mem_cons_of_mem _ hx)) ht (by simp) (Qg (by simp))
   ·rw[if_neg hpe,AIO (by rw[hnl];exact hpe)]
theorem Yx (g:Grf) (h:g.es.length<1000000):(Gu g).es.length<1000000:=Nat.lt_of_le_of_lt (Yq g) h
theorem OT:∀(ls:List (List UInt8)) (t:List UInt8) (n:Nat) (acc es:List E0),Dw ls t n acc= .inr es→es.length≤acc.length+ls.length
 |[],t,n,acc,es,h=>by
  rw[Dw]at h
  split at h
  ·cases h;simp
  ·cases h
 |l::ls,t,n,acc,es,h=>by
  rw[Dw]at h
  split at h
  ·have:=OT ls t _ _ es h
   simp at this⊢;omega
  ·cases h
theorem Yy {ls:List (List UInt8)} {t:List UInt8} (h:(BM ls t).length≤2000):(Gv ls t).1.es.length<1000000:=by
 match ls with
 |[]=>rw[Gv];simp
 |l::ls=>
  have hfl:=Io (l::ls) t
  rw[Gv]
  split
  ·rename_i a _
   cases hh:Dw ls t 2 []with
   |inl n=>rw[PN];simp
   |inr es=>
    have:=OT ls t 2 [] es hh
    rw[PN]
    exact Yx _ (by simp at this hfl⊢;omega)
  ·simp
theorem ACG (s:List UInt8):Cl 5 [.str s] []=some (.bool true,[]):=by
 have hA:=ADw
 by_cases h1:2000<s.length
 ·rw[AEe]
  (repeat' with_reducible first|refine(Af _ _).trans ?_|refine(Aa _ _).trans ?_|refine(AA _ _).trans ?_|((first|(refine' (AB ?_ _).trans ?_;rotate_left)|refine(if_pos ?_).trans ?_|refine(AQ ?_ _ _).trans ?_);focus (first|rfl|(simp(disch:=first|assumption|omega|with_reducible rfl|(simp only[go_sem]<;>omega)|fail) only[↓reduceIte,↓AA,Nat.reduceAdd,go_sem,Bool.not_true,Bool.not_false,hA]<;>first|rfl|omega)|assumption|omega))|(refine(AO ?_ _ _).trans ?_;focus (first|(simp(disch:=first|assumption|omega|with_reducible rfl|(simp only[go_sem]<;>omega)|fail) only[↓reduceIte,↓AA,Nat.reduceAdd,go_sem,Bool.not_true,Bool.not_false,hA]<;>omega)|assumption|omega))|fail)
  rfl
 obtain⟨ls,t,rfl,h2,h3⟩:=U3 s
 have rd:=ADv h2 h3 (by omega)
 have rr:=ACF h2 h3 (by omega)
 have sm:=AB7 (Yy (ls:=ls) (t:=t) (by omega))
 have ei:∀x:Int,AL .eql (.int .i64 x) (.int .i64 x)=some (.bool true):=fun x=>by rw[b_eql];simp
 simp only[Yt]at rd rr
 generalize (Gv ls t).2.2=e at*
 generalize (((Gv ls t).2.1:Nat):Int)=n at*
 generalize (Gv ls t).1=m at*
 generalize BM ls t=u at*
 rw[AEe]
 (repeat' with_reducible first|refine(Af _ _).trans ?_|refine(Aa _ _).trans ?_|refine(AA _ _).trans ?_|((first|(refine' (AB ?_ _).trans ?_;rotate_left)|refine(if_pos ?_).trans ?_|refine(AQ ?_ _ _).trans ?_);focus (first|rfl|(simp(disch:=first|assumption|omega|with_reducible rfl|(simp only[go_sem]<;>omega)|fail) only[↓reduceIte,↓AA,Nat.reduceAdd,go_sem,Bool.not_true,Bool.not_false,hA,rd,rr,sm,ei]<;>first|rfl|omega)|assumption|omega))|(refine(AO ?_ _ _).trans ?_;focus (first|(simp(disch:=first|assumption|omega|with_reducible rfl|(simp only[go_sem]<;>omega)|fail) only[↓reduceIte,↓AA,Nat.reduceAdd,go_sem,Bool.not_true,Bool.not_false,hA,rd,rr,sm,ei]<;>omega)|assumption|omega))|fail)
 rfl
end
section
open Go AM
end
end Go.Proofs.YtaghnpjlhmgioaaDoor
