/-
  Part of the proof of a statement about the given program: an abstract machine over its code, the simulation, its functions' equations, what they compute.
-/
import Derived.Test.YtoakaehjnbhgmaaGreatDoorMg10
import Derived.Test.YtoakaehjnbhgmaaGreatDoorMg12
import Derived.Test.YtoakaehjnbhgmaaGreatDoorMg3
import Derived.Test.YtoakaehjnbhgmaaGreatDoorMg5
set_option linter.unusedVariables false
set_option linter.unusedSimpArgs false
set_option linter.unusedSectionVars false
set_option maxRecDepth 100000
noncomputable section
namespace Go.Proofs.YtoakaehjnbhgmaaGreatDoor
section
open Go AM
section
variable {a0 a1 a2 a3 a4 a5 a6:V} {fp fn:Fl} {k:Wkr} {at_:Int} {ms:List Msg}
abbrev IG (a0 a1 a2 a3 a4 a5 a6:V) (fp fn:Fl) (k:Wkr) (at_:Int) (ms:List Msg) (fb:Fl) (b:List Vtx) (fd:Fl) (d:List Vtx) (fs:Fl) (s:List Msg):List V:=[a0,a1,a2,a3,a4,a5,a6,H8 fp fn k,.ref 7 [] 103,.int .i64 at_,Bd .sh ms,SY 0 [] .nil [],GN fb b,GN fd d,.lst 152 fs (s.map Aa)]
abbrev ANd:V:= .clo 54 [.ref 8 [] 29,.ref 10 [] 39,.ref 12 [] 35]
abbrev ANe:V:= .clo 56 [.ref 8 [] 29,.ref 9 [] 3,.ref 13 [] 35,.ref 14 [] 39]
theorem AQN (hms:ms.length≤1000000) {fb:Fl} {b:List Vtx} (hb:b.length≤1000) (hf:fb= .own∨fb= .nil∧b=[]) (x:Vtx):
 Cl 54 [CW x,.ref 8 [] 29,.ref 10 [] 39,.ref 12 [] 35] (IG a0 a1 a2 a3 a4 a5 a6 fp fn k at_ ms fb b .nil [] .nil []++[CW x])=some (.int .i64 (DI k.j ms x).2,IG a0 a1 a2 a3 a4 a5 a6 fp fn k at_ ms .own (b++[(DI k.j ms x).1]) .nil [] .nil []++[CW x]):=by
 have ca:=ACS k.j.tag hms x.id (fl:= .sh) (.inl rfl)
 have ap:∀(h:List V) (y:Vtx),GK 86 (tyG Y9) false h (GN fb b) (.lst 86 .own [CW y])=some (GN .own (b++[y])):=fun h y=>by
  have cl:AQ [CW y]=true:=rfl
  have ty:[CW y].all (tyG Y9)=true:=rfl
  unfold GN
  rw[List.map_append]
  rcases hf with rfl|⟨rfl,rfl⟩
  ·rw[DT cl ty (by simp;omega)];rfl
  ·rw[List.map_nil,Dn cl ty (by simp)];rfl
 rw[AEP]
 simp only[DI]
 generalize FD k.j.tag ms x.id=q at*
 refine BR (R:=fun X=>X=_) rfl ?_
 iterate 8 refine rb (R:=fun X=>X=_) rfl ?_
 refine rb (R:=fun X=>X=_) (show Cl 55 _ _=_ from ca) ?_
 iterate 3 refine rb (R:=fun X=>X=_) rfl ?_
 iterate 4 refine rb (R:=fun X=>X=_) rfl ?_
 iterate 3 refine rb (R:=fun X=>X=_) rfl ?_
 refine rb (R:=fun X=>X=_) (ap _ ⟨x.id,x.val,x.act,q.2.1,q.1⟩) ?_
 refine rb (R:=fun X=>X=_) rfl ?_
 rfl
theorem AJ6 (hms:ms.length≤1000000) {l:List Vtx} (hl:l.length≤64):∀(m i:Nat) (fb:Fl) (b:List Vtx),i+m=l.length→b.length≤i→(fb= .own∨fb= .nil∧b=[])→∃fb':Fl,(fb'= .own∨fb'= .nil)∧
 Jy ANd (GN .sh l) (.int .i64 (l.length:Int)) (.int .i64 (i:Int)) 15 (IG a0 a1 a2 a3 a4 a5 a6 fp fn k at_ ms fb b .nil [] .nil [])=some (.int .i64 (FN (DI k.j ms) (l.drop i)).2,IG a0 a1 a2 a3 a4 a5 a6 fp fn k at_ ms fb' (b++(FN (DI k.j ms) (l.drop i)).1) .nil [] .nil []):=by
 intro m
 induction m with
 |zero=>
  intro i fb b hi hb hf
  have ls:AL .lss (.int .i64 (i:Int)) (.int .i64 (l.length:Int))=some (.bool false):=by rw[b_lss,decide_eq_false (by omega)]
  refine⟨fb,by rcases hf with rfl|⟨rfl,_⟩<;>simp,?_⟩
  rw[List.drop_eq_nil_of_le (by omega),Cc]
  simp only[FN,List.append_nil]
  refine(AA ls _).trans ?_
  rfl
 |succ m ih=>
  intro i fb b hi hb hf
  have h:i<l.length:=by omega
  have ls:AL .lss (.int .i64 (i:Int)) (.int .i64 (l.length:Int))=some (.bool true):=by rw[b_lss,decide_eq_true (by omega)]
  have ix:EQ 86 (GN .sh l) (.int .i64 (i:Int))=some (.rop 86 (CW l[i])):=by
   rw[EI,List.getElem?_map,List.getElem?_eq_getElem h];rfl
  have ad:AL .add (.int .i64 (i:Int)) (.int .i64 1)=some (.int .i64 ((i+1:Nat):Int)):=by rw[Cf,wrap_i64 (by omega) (by omega)];rfl
  have d1:=AQN (a0:=a0) (a1:=a1) (a2:=a2) (a3:=a3) (a4:=a4) (a5:=a5) (a6:=a6) (fp:=fp) (fn:=fn) (k:=k) (at_:=at_) hms (fb:=fb) (b:=b) (by omega) hf l[i]
  rw[List.drop_eq_getElem_cons h,FN]
  by_cases hq:(DI k.j ms l[i]).2=0
  ·obtain⟨fb',hf',nx⟩:=ih (i+1) .own (b++[(DI k.j ms l[i]).1]) (by omega) (by simp;omega) (.inl rfl)
   refine⟨fb',hf',?_⟩
   have ne:AL .neq (.int .i64 (DI k.j ms l[i]).2) (.int .i64 0)=some (.bool false):=by rw[b_neq];simp[hq]
   rw[if_pos hq]
   simp only[show b++(DI k.j ms l[i]).1::(FN (DI k.j ms) (l.drop (i+1))).1=b++[(DI k.j ms l[i]).1]++(FN (DI k.j ms) (l.drop (i+1))).1 by simp]
   rw[←nx,Cc]
   clear ih nx hf
   generalize DI k.j ms l[i]=q at*
   generalize l[i]=x at*
   generalize (i+1:Nat)=i2 at*
   generalize (l.length:Int)=ll at*
   generalize l.map CW=LL at*
   refine(AA ls _).trans ?_
   refine(Af _ _).trans ?_
   refine(AA ix _).trans ?_
   refine rb (R:=fun X=>X=_) rfl ?_
   refine rb (R:=fun X=>X=_) rfl ?_
   refine rb (R:=fun X=>X=_) rfl ?_
   refine Jl (R:=fun X=>X=_) d1 ?_
   refine BR (R:=fun X=>X=_) rfl ?_
   refine(AA ne _).trans ?_
   refine(Aj _ _).trans ?_
   refine(AA ad _).trans ?_
   refine BR (R:=fun X=>X=_) rfl ?_
   rfl
  ·refine⟨.own,.inl rfl,?_⟩
   have ne:AL .neq (.int .i64 (DI k.j ms l[i]).2) (.int .i64 0)=some (.bool true):=by rw[b_neq];simp[hq]
   rw[if_neg hq,Cc]
   clear ih hf
   generalize DI k.j ms l[i]=q at*
   generalize l[i]=x at*
   generalize (l.length:Int)=ll at*
   generalize l.map CW=LL at*
   refine(AA ls _).trans ?_
   refine(Af _ _).trans ?_
   refine(AA ix _).trans ?_
   refine rb (R:=fun X=>X=_) rfl ?_
   refine rb (R:=fun X=>X=_) rfl ?_
   refine rb (R:=fun X=>X=_) rfl ?_
   refine Jl (R:=fun X=>X=_) d1 ?_
   refine BR (R:=fun X=>X=_) rfl ?_
   refine(AA ne _).trans ?_
   refine(Af _ _).trans ?_
   rfl
theorem AGD (hms:ms.length≤1000000) {l:List Vtx} (hl:l.length≤64):∃fb':Fl,(fb'= .own∨fb'= .nil)∧
 Cl 53 [GN .sh l,ANd] (IG a0 a1 a2 a3 a4 a5 a6 fp fn k at_ ms .nil [] .nil [] .nil [])=some (.int .i64 (FN (DI k.j ms) l).2,IG a0 a1 a2 a3 a4 a5 a6 fp fn k at_ ms fb' (FN (DI k.j ms) l).1 .nil [] .nil []):=by
 obtain⟨fb',hf',lp⟩:=AJ6 (a0:=a0) (a1:=a1) (a2:=a2) (a3:=a3) (a4:=a4) (a5:=a5) (a6:=a6) (fp:=fp) (fn:=fn) (k:=k) (at_:=at_) hms hl l.length 0 .nil [] (by omega) (Nat.le_refl 0) (.inr ⟨rfl,rfl⟩)
 have lL:EZ (GN .sh l)=some (.int .i64 (l.length:Int)):=by show some _=_;rw[List.length_map]
 refine⟨fb',hf',?_⟩
 rw[List.drop_zero,List.nil_append]at lp
 rw[←lp,Us]
 exact AA lL _
theorem AQO (hk:WkOk k) {fb:Fl} {b:List Vtx} {fd fs:Fl} {d:List Vtx} {s:List Msg} (hd:d.length≤1000) (hs:s.length≤900000) (hf:fd= .own∨fd= .nil∧d=[]) (hf2:fs= .own∨fs= .nil∧s=[]) {x:Vtx} (hx:JL x):
 Cl 56 [CW x,.ref 8 [] 29,.ref 9 [] 3,.ref 13 [] 35,.ref 14 [] 39] (IG a0 a1 a2 a3 a4 a5 a6 fp fn k at_ ms fb b fd d fs s++[CW x])=some (.int .i64 (Ae k.g k.j at_ x).2.2,IG a0 a1 a2 a3 a4 a5 a6 fp fn k at_ ms fb b .own (d++[(Ae k.g k.j at_ x).1]) (if fs= .nil∧(Ae k.g k.j at_ x).2.1=[]then .nil else .own) (s++(Ae k.g k.j at_ x).2.1)++[CW x]):=by
 obtain⟨st,_,_,_,hln⟩:=Ie hk.job at_ hx
 have ap:∀(h:List V) (y:Vtx),GK 86 (tyG Y9) false h (GN fd d) (.lst 86 .own [CW y])=some (GN .own (d++[y])):=fun h y=>by
  have cl:AQ [CW y]=true:=rfl
  have ty:[CW y].all (tyG Y9)=true:=rfl
  unfold GN
  rw[List.map_append]
  rcases hf with rfl|⟨rfl,rfl⟩
  ·rw[DT cl ty (by simp;omega)];rfl
  ·rw[List.map_nil,Dn cl ty (by simp)];rfl
 have ap2:∀(h:List V) (u:List Msg),u.length≤1000→GK 152 (tyG 151) false h (.lst 152 fs (s.map Aa)) (Bd .sh u)=some (.lst 152 (if fs= .nil∧u=[]then .nil else .own) ((s++u).map Aa)):=fun h u hu=>by
  have cl:AQ (u.map Aa)=true:=Fj u
  have ty:(u.map Aa).all (tyG 151)=true:=all_map (fun _=>rfl) u
  rw[List.map_append]
  rcases hf2 with rfl|⟨rfl,rfl⟩
  ·rw[Bd,DT cl ty (by simp;omega)]
   simp only[reduceCtorEq,false_and,if_false];rfl
  ·cases u with
   |nil=>rfl
   |cons y u=>
    rw[Bd,List.map_nil,List.map_cons,Dn (by simpa using cl) (by simpa using ty) (by simp at hu⊢;omega)]
    simp;rfl
 rw[AER]
 generalize Ae k.g k.j at_ x=q at*
 refine BR (R:=fun X=>X=_) rfl ?_
 iterate 10 refine rb (R:=fun X=>X=_) rfl ?_
 refine BR (R:=fun X=>X=_) rfl ?_
 refine rb (R:=fun X=>X=_) (show Cl 57 _ _=_ from st) ?_
 iterate 4 refine rb (R:=fun X=>X=_) rfl ?_
 refine BR (R:=fun X=>X=_) rfl ?_
 refine BR (R:=fun X=>X=_) rfl ?_
 refine rb (R:=fun X=>X=_) rfl ?_
 refine BR (R:=fun X=>X=_) rfl ?_
 iterate 2 refine rb (R:=fun X=>X=_) rfl ?_
 refine BR (R:=fun X=>X=_) (by rcases hf with rfl|⟨rfl,rfl⟩<;>rfl) ?_
 refine rb (R:=fun X=>X=_) (ap _ q.1) ?_
 refine BR (R:=fun X=>X=_) rfl ?_
 refine rb (R:=fun X=>X=_) rfl ?_
 refine rb (R:=fun X=>X=_) (ap2 _ q.2.1 hln) ?_
 refine rb (R:=fun X=>X=_) rfl ?_
 refine rb (R:=fun X=>X=_) (x:=IG a0 a1 a2 a3 a4 a5 a6 fp fn k at_ ms fb b .own (d++[q.1]) (if fs= .nil∧q.2.1=[]then .nil else .own) (s++q.2.1)++[CW x]++[CW x]++[CW q.1]) (by split<;>rfl) ?_
 rfl
theorem AJ7 (hk:WkOk k) {fb:Fl} {b:List Vtx} {l:List Vtx} (hl:l.length≤64) (hx:∀x∈l,JL x):∀(m i:Nat) (fd fs:Fl) (d:List Vtx) (s:List Msg),i+m=l.length→d.length≤i→s.length≤1000*i→(fd= .own∨fd= .nil∧d=[])→(fs= .own∨fs= .nil∧s=[])→∃fd' fs':Fl,(fd'= .own∨fd'= .nil)∧(fs'= .own∨fs'= .nil)∧
 Jy ANe (GN .sh l) (.int .i64 (l.length:Int)) (.int .i64 (i:Int)) 15 (IG a0 a1 a2 a3 a4 a5 a6 fp fn k at_ ms fb b fd d fs s)=some (.int .i64 (Di (Ae k.g k.j at_) (l.drop i)).2.2,IG a0 a1 a2 a3 a4 a5 a6 fp fn k at_ ms fb b fd' (d++(Di (Ae k.g k.j at_) (l.drop i)).1) fs' (s++(Di (Ae k.g k.j at_) (l.drop i)).2.1)):=by
 intro m
 induction m with
 |zero=>
  intro i fd fs d s hi hd hs hf hf2
  have ls:AL .lss (.int .i64 (i:Int)) (.int .i64 (l.length:Int))=some (.bool false):=by rw[b_lss,decide_eq_false (by omega)]
  refine⟨fd,fs,by rcases hf with rfl|⟨rfl,_⟩<;>simp,by rcases hf2 with rfl|⟨rfl,_⟩<;>simp,?_⟩
  rw[List.drop_eq_nil_of_le (by omega),Cc]
  simp only[Di,List.append_nil]
  refine(AA ls _).trans ?_
  rfl
 |succ m ih=>
  intro i fd fs d s hi hd hs hf hf2
  have h:i<l.length:=by omega
  have ls:AL .lss (.int .i64 (i:Int)) (.int .i64 (l.length:Int))=some (.bool true):=by rw[b_lss,decide_eq_true (by omega)]
  have ix:EQ 86 (GN .sh l) (.int .i64 (i:Int))=some (.rop 86 (CW l[i])):=by
   rw[EI,List.getElem?_map,List.getElem?_eq_getElem h];rfl
  have ad:AL .add (.int .i64 (i:Int)) (.int .i64 1)=some (.int .i64 ((i+1:Nat):Int)):=by rw[Cf,wrap_i64 (by omega) (by omega)];rfl
  have d2:=AQO (a0:=a0) (a1:=a1) (a2:=a2) (a3:=a3) (a4:=a4) (a5:=a5) (a6:=a6) (fp:=fp) (fn:=fn) (at_:=at_) (ms:=ms) hk (fb:=fb) (b:=b) (fd:=fd) (fs:=fs) (d:=d) (s:=s) (by omega) (by omega) hf hf2 (hx _ (List.getElem_mem h))
  obtain⟨_,_,_,_,hln⟩:=Ie hk.job at_ (hx _ (List.getElem_mem h))
  rw[List.drop_eq_getElem_cons h,Di]
  by_cases hq:(Ae k.g k.j at_ l[i]).2.2=0
  ·obtain⟨fd',fs',hf',hf2',nx⟩:=ih (i+1) .own (if fs= .nil∧(Ae k.g k.j at_ l[i]).2.1=[]then .nil else .own) (d++[(Ae k.g k.j at_ l[i]).1]) (s++(Ae k.g k.j at_ l[i]).2.1) (by omega) (by simp;omega) (by simp;omega) (.inl rfl) (by
    by_cases hc:fs= .nil∧(Ae k.g k.j at_ l[i]).2.1=[]
    ·rw[if_pos hc]
     refine .inr ⟨rfl,?_⟩
     rcases hf2 with rfl|⟨_,rfl⟩
     ·cases hc.1
     ·rw[hc.2];rfl
    ·rw[if_neg hc];exact .inl rfl)
   refine⟨fd',fs',hf',hf2',?_⟩
   have ne:AL .neq (.int .i64 (Ae k.g k.j at_ l[i]).2.2) (.int .i64 0)=some (.bool false):=by rw[b_neq];simp[hq]
   rw[if_pos hq]
   simp only[show d++(Ae k.g k.j at_ l[i]).1::(Di (Ae k.g k.j at_) (l.drop (i+1))).1=d++[(Ae k.g k.j at_ l[i]).1]++(Di (Ae k.g k.j at_) (l.drop (i+1))).1 by simp,
    show s++((Ae k.g k.j at_ l[i]).2.1++(Di (Ae k.g k.j at_) (l.drop (i+1))).2.1)=s++(Ae k.g k.j at_ l[i]).2.1++(Di (Ae k.g k.j at_) (l.drop (i+1))).2.1 by simp]
   rw[←nx,Cc]
   clear ih nx hf hf2 hln hx
   generalize (if fs= .nil∧(Ae k.g k.j at_ l[i]).2.1=[]then Fl.nil else Fl.own)=fz at*
   generalize Ae k.g k.j at_ l[i]=q at*
   generalize l[i]=x at*
   generalize (i+1:Nat)=i2 at*
   generalize (l.length:Int)=ll at*
   generalize l.map CW=LL at*
   refine(AA ls _).trans ?_
   refine(Af _ _).trans ?_
   refine(AA ix _).trans ?_
   refine rb (R:=fun X=>X=_) rfl ?_
   refine rb (R:=fun X=>X=_) rfl ?_
   refine rb (R:=fun X=>X=_) rfl ?_
   refine Jl (R:=fun X=>X=_) d2 ?_
   refine BR (R:=fun X=>X=_) rfl ?_
   refine(AA ne _).trans ?_
   refine(Aj _ _).trans ?_
   refine(AA ad _).trans ?_
   refine BR (R:=fun X=>X=_) rfl ?_
   rfl
  ·refine⟨.own,(if fs= .nil∧(Ae k.g k.j at_ l[i]).2.1=[]then .nil else .own),.inl rfl,by split<;>simp,?_⟩
   have ne:AL .neq (.int .i64 (Ae k.g k.j at_ l[i]).2.2) (.int .i64 0)=some (.bool true):=by rw[b_neq];simp[hq]
   rw[if_neg hq,Cc]
   clear ih hf hf2 hln hx
   generalize (if fs= .nil∧(Ae k.g k.j at_ l[i]).2.1=[]then Fl.nil else Fl.own)=fz at*
   generalize Ae k.g k.j at_ l[i]=q at*
   generalize l[i]=x at*
   generalize (l.length:Int)=ll at*
   generalize l.map CW=LL at*
   refine(AA ls _).trans ?_
   refine(Af _ _).trans ?_
   refine(AA ix _).trans ?_
   refine rb (R:=fun X=>X=_) rfl ?_
   refine rb (R:=fun X=>X=_) rfl ?_
   refine rb (R:=fun X=>X=_) rfl ?_
   refine Jl (R:=fun X=>X=_) d2 ?_
   refine BR (R:=fun X=>X=_) rfl ?_
   refine(AA ne _).trans ?_
   refine(Af _ _).trans ?_
   rfl
theorem AGE (hk:WkOk k) {fb:Fl} {b:List Vtx} {l:List Vtx} (hl:l.length≤64) (hx:∀x∈l,JL x):∃fd' fs':Fl,(fd'= .own∨fd'= .nil)∧(fs'= .own∨fs'= .nil)∧
 Cl 53 [GN .sh l,ANe] (IG a0 a1 a2 a3 a4 a5 a6 fp fn k at_ ms fb b .nil [] .nil [])=some (.int .i64 (Di (Ae k.g k.j at_) l).2.2,IG a0 a1 a2 a3 a4 a5 a6 fp fn k at_ ms fb b fd' (Di (Ae k.g k.j at_) l).1 fs' (Di (Ae k.g k.j at_) l).2.1):=by
 obtain⟨fd',fs',hf',hf2',lp⟩:=AJ7 (a0:=a0) (a1:=a1) (a2:=a2) (a3:=a3) (a4:=a4) (a5:=a5) (a6:=a6) (fp:=fp) (fn:=fn) (at_:=at_) (ms:=ms) hk (fb:=fb) (b:=b) hl hx l.length 0 .nil .nil [] [] (by omega) (Nat.le_refl 0) (by simp) (.inr ⟨rfl,rfl⟩) (.inr ⟨rfl,rfl⟩)
 have lL:EZ (GN .sh l)=some (.int .i64 (l.length:Int)):=by show some _=_;rw[List.length_map]
 refine⟨fd',fs',hf',hf2',?_⟩
 rw[List.drop_zero,List.nil_append,List.nil_append]at lp
 rw[←lp,Us]
 exact AA lL _
theorem AJ8 (hk:WkOk k) (hfn:fn= .own∨fn= .nil∨fn= .sh) {fb fd fs:Fl} (hfd:fd= .own∨fd= .nil) {b:List Vtx} (cc:V) (co:List UInt8) (ha: -1000000≤at_∧at_≤1000000):∀(m i:Nat) (f:Fl) (bs:List (List UInt8)),i+m=(G7 k at_ ms).length→bs.length≤i→(f= .own∨f= .nil∧bs=[])→
 O4 (.ref 8 [] 29) (.ref 9 [] 3) (.ref 11 [] 44) (.ref 13 [] 35) (.ref 16 [] 44) (vBs .sh (G7 k at_ ms)) (.int .i64 ((G7 k at_ ms).length:Int)) (.int .i64 (i:Int)) 8 (IG a0 a1 a2 a3 a4 a5 a6 fp fn k at_ ms fb b fd (EX k at_ ms).1 fs (EX k at_ ms).2.1++[cc,SY 0 co f bs])=
  some (SY 0 co .sh (bs++((G7 k at_ ms).drop i).map fun l=>(EY l).1),[a0,a1,a2,a3,a4,a5,a6,H8 fn.wk fd.wk (doK k at_ ms)]):=by
 have hO:=RP hk at_ ms
 generalize hOO:G7 k at_ ms=O at*
 intro m
 induction m with
 |zero=>
  intro i f bs hi hb hf
  have ls:AL .lss (.int .i64 (i:Int)) (.int .i64 (O.length:Int))=some (.bool false):=by rw[b_lss,decide_eq_false (by omega)]
  have ad:AL .add (.int .i64 at_) (.int .i64 1)=some (.int .i64 (at_+1)):=by rw[Cf,wrap_i64 (by omega) (by omega)]
  have pl:IB (bs.map V.str)=true:=CY (fun _=>rfl) bs
  have pk:(vG .sh k.g).pl=true:=by simp only[go_sem]
  rw[List.drop_eq_nil_of_le (by omega),List.map_nil,List.append_nil,JD]
  unfold doK
  generalize (EX k at_ ms).1=dn at*
  generalize (EX k at_ ms).2.1=sn at*
  clear hOO hO hk
  rcases hfn with rfl|rfl|rfl
  all_goals rcases hfd with rfl|rfl
  all_goals refine(AA ls _).trans ?_
  all_goals refine(Aj _ _).trans ?_
  all_goals refine rb (R:=fun X=>X=_) rfl ?_
  all_goals refine BR (R:=fun X=>X=_) rfl ?_
  all_goals refine rb (R:=fun X=>X=_) rfl ?_
  all_goals refine BR (R:=fun X=>X=_) rfl ?_
  all_goals refine rb (R:=fun X=>X=_) rfl ?_
  all_goals refine BR (R:=fun X=>X=_) rfl ?_
  all_goals iterate 5 refine rb (R:=fun X=>X=_) rfl ?_
  all_goals refine BR (R:=fun X=>X=_) rfl ?_
  all_goals refine rb (R:=fun X=>X=_) rfl ?_
  all_goals refine BR (R:=fun X=>X=_) rfl ?_
  all_goals refine rb (R:=fun X=>X=_) rfl ?_
  all_goals refine rb (R:=fun X=>X=_) ad ?_
  all_goals iterate 2 refine rb (R:=fun X=>X=_) rfl ?_
  all_goals refine BR (R:=fun X=>X=_) rfl ?_
  all_goals iterate 3 refine rb (R:=fun X=>X=_) rfl ?_
  all_goals refine BR (R:=fun X=>X=_) rfl ?_
  all_goals iterate 3 refine rb (R:=fun X=>X=_) rfl ?_
  all_goals refine BR (R:=fun X=>X=_) rfl ?_
  all_goals iterate 8 refine rb (R:=fun X=>X=_) rfl ?_
  all_goals rcases hf with rfl|⟨rfl,rfl⟩
  all_goals rfl
 |succ m ih=>
  intro i f bs hi hb hf
  have h:i<O.length:=by omega
  have ls:AL .lss (.int .i64 (i:Int)) (.int .i64 (O.length:Int))=some (.bool true):=by rw[b_lss,decide_eq_true (by omega)]
  have ho:=hO.2
  have ix:EQ 39 (vBs .sh O) (.int .i64 (i:Int))=some (.rop 39 (mB O[i])):=by
   rw[EI,List.getElem?_map,List.getElem?_eq_getElem h];rfl
  have ad:AL .add (.int .i64 (i:Int)) (.int .i64 1)=some (.int .i64 ((i+1:Nat):Int)):=by rw[Cf,wrap_i64 (by omega) (by omega)];rfl
  have hm:=hO.1 _ (List.getElem_mem h)
  have pt:=ACV (f:= .sh) hm.1 hm.2
  have ap:∀(h:List V),GK 9 AM.tyS false h (.lst 9 f (bs.map V.str)) (.lst 9 .own [.str (EY O[i]).1])=some (.lst 9 .own ((bs++[(EY O[i]).1]).map V.str)):=fun h=>by
   have cl:AQ [V.str (EY O[i]).1]=true:=rfl
   have ty:[V.str (EY O[i]).1].all AM.tyS=true:=rfl
   rw[List.map_append]
   rcases hf with rfl|⟨rfl,rfl⟩
   ·rw[DT cl ty (by simp;omega)];rfl
   ·rw[List.map_nil,Dn cl ty (by simp)];rfl
  have nx:=ih (i+1) .own (bs++[(EY O[i]).1]) (by omega) (by simp;omega) (.inl rfl)
  rw[List.drop_eq_getElem_cons h,List.map_cons,show bs++(EY O[i]).1::((O.drop (i+1)).map fun l=>(EY l).1)=bs++[(EY O[i]).1]++(O.drop (i+1)).map (fun l=>(EY l).1)by simp,←nx,JD]
  clear ih nx hf hm hO hOO
  generalize (EX k at_ ms).1=dn at*
  generalize (EX k at_ ms).2.1=sn at*
  generalize EY O[i]=q at*
  generalize O[i]=o at*
  generalize (i+1:Nat)=i2 at*
  generalize (O.length:Int)=ll at*
  generalize O.map mB=OL at*
  refine(AA ls _).trans ?_
  refine(Af _ _).trans ?_
  refine(AA ix _).trans ?_
  refine rb (R:=fun X=>X=_) (x:=mB o) rfl ?_
  refine rb (R:=fun X=>X=_) (show Cl 61 _ _=_ from pt) ?_
  iterate 5 refine rb (R:=fun X=>X=_) rfl ?_
  refine rb (R:=fun X=>X=_) (ap _) ?_
  iterate 2 refine rb (R:=fun X=>X=_) rfl ?_
  exact AA ad _
theorem AGF (fl:Fl) (hfl:fl= .sh∨fl= .own) (hb:at_≠k.step∨k.j.steps≤at_):Cl 17 [.ref 7 [] 103,.int .i64 at_,Bd .sh ms] [a0,a1,a2,a3,a4,a5,a6,H8 fp fn k]=some (SY 131 [] .sh [],[a0,a1,a2,a3,a4,a5,a6,H8 fp fn k]):=by
 rw[Ur]
 iterate 3 refine BR (R:=fun X=>X=_) rfl ?_
 refine rjn (R:=fun X=>X=_) ?_
 have fin:∀X:Rv,X=some (SY 131 [] .sh [],[a0,a1,a2,a3,a4,a5,a6,H8 fp fn k])→X=some (SY 131 [] .sh [],[a0,a1,a2,a3,a4,a5,a6,H8 fp fn k]):=fun _ h=>h
 iterate 5 refine rb (R:=fun X=>X=_) rfl ?_
 by_cases h1:at_=k.step
 ·have ne:AL .neq (.int .i64 at_) (.int .i64 k.step)=some (.bool false):=by rw[b_neq];simp[h1]
  have ge:AL .geq (.int .i64 at_) (.int .i64 k.j.steps)=some (.bool true):=by rw[b_geq,decide_eq_true (by rcases hb with h|h;exact absurd h1 h;exact h)]
  refine rb (R:=fun X=>X=_) ne ?_
  refine(Aj _ _).trans ?_
  iterate 6 refine rb (R:=fun X=>X=_) rfl ?_
  refine rb (R:=fun X=>X=_) ge ?_
  refine(Af _ _).trans ?_
  iterate 3 refine rb (R:=fun X=>X=_) rfl ?_
  rfl
 ·have ne:AL .neq (.int .i64 at_) (.int .i64 k.step)=some (.bool true):=by rw[b_neq];simp[h1]
  refine rb (R:=fun X=>X=_) ne ?_
  refine(Af _ _).trans ?_
  refine(Af _ _).trans ?_
  iterate 3 refine rb (R:=fun X=>X=_) rfl ?_
  rfl
theorem AJ9 (hk:WkOk k) (hfn:fn= .own∨fn= .nil∨fn= .sh) (hms:ms.length≤1000000) (h1:at_=k.step) (h2:at_<k.j.steps) (h3:0≤at_):∃fd:Fl,(fd= .sh∨fd= .nil)∧
 Cl 17 [.ref 7 [] 103,.int .i64 at_,Bd .sh ms] [a0,a1,a2,a3,a4,a5,a6,H8 fp fn k]=some (if Vm k at_ ms=0 then(SY 0 (doC k at_ ms) .sh ((G7 k at_ ms).map fun l=>(EY l).1),[a0,a1,a2,a3,a4,a5,a6,H8 fn.wk fd (doK k at_ ms)])else(SY (Vm k at_ ms) [] .sh [],[a0,a1,a2,a3,a4,a5,a6,H8 fp fn k])):=by
 have hst:k.j.steps≤64:=by have:=hk.job;simp only[Ea,decide_eq_true_eq]at this;exact this.2.2.2.2.2
 obtain⟨b1,b2⟩:=Zt hk at_ ms
 obtain⟨d1,d2,d3,d4⟩:=Vo hk at_ ms
 have hO:=RP hk at_ ms
 obtain⟨fb,hfb,e1⟩:=AGD (a0:=a0) (a1:=a1) (a2:=a2) (a3:=a3) (a4:=a4) (a5:=a5) (a6:=a6) (fp:=fp) (fn:=fn) (k:=k) (at_:=at_) hms hk.len
 have hb:FN (DI k.j ms) k.now=JR k at_ ms:=rfl
 rw[hb]at e1
 obtain⟨fd,fs,hfd,hfs,e2⟩:=AGE (a0:=a0) (a1:=a1) (a2:=a2) (a3:=a3) (a4:=a4) (a5:=a5) (a6:=a6) (fp:=fp) (fn:=fn) (at_:=at_) (ms:=ms) hk (fb:=fb) (b:=(JR k at_ ms).1) b1 b2
 have hd:Di (Ae k.g k.j at_) (JR k at_ ms).1=EX k at_ ms:=rfl
 rw[hd]at e2
 have sp:=YR (N:=k.N) (l:=(EX k at_ ms).2.1) hk.n1 hk.n64 (by omega) d3
 rw[show Nv k.N (EX k at_ ms).2.1=G7 k at_ ms from rfl]at sp
 have mk:=ACZ (w:=(k.w:Int)) (st:=at_) ⟨by have:=hk.w;have:=hk.n64;omega,by have:=hk.w;have:=hk.n64;omega⟩ ⟨by omega,by omega⟩ d4 (by omega) hO
 have hcm:LH (okR (mkC (k.w:Int) at_ (EX k at_ ms).1 (G7 k at_ ms))).1:=by
  unfold okR
  split
  ·exact AF5 ⟨by have:=hk.w;have:=hk.n64;omega,by have:=hk.w;have:=hk.n64;omega⟩ ⟨by omega,by omega⟩ _ hO
  ·exact ALO
 have cp:=ACX hcm
 have lp:=AJ8 (a0:=a0) (a1:=a1) (a2:=a2) (a3:=a3) (a4:=a4) (a5:=a5) (a6:=a6) (fp:=fp) (at_:=at_) (ms:=ms) hk hfn (fb:=fb) (fd:=fd) (fs:=fs) hfd (b:=(JR k at_ ms).1) (vC .sh (okR (mkC (k.w:Int) at_ (EX k at_ ms).1 (G7 k at_ ms))).1) (doC k at_ ms) (by omega) (G7 k at_ ms).length 0 .nil [] (by omega) (Nat.le_refl 0) (.inr ⟨rfl,rfl⟩)
 rw[List.drop_zero,List.nil_append]at lp
 refine⟨fd.wk,by rcases hfd with rfl|rfl<;>simp[Fl.wk],?_⟩
 have ne:AL .neq (.int .i64 at_) (.int .i64 k.step)=some (.bool false):=by rw[b_neq];simp[h1]
 have ge:AL .geq (.int .i64 at_) (.int .i64 k.j.steps)=some (.bool false):=by rw[b_geq,decide_eq_false (by omega)]
 have lO:EZ (.lst 39 .sh ((G7 k at_ ms).map (Bd .sh)))=some (.int .i64 ((G7 k at_ ms).length:Int)):=by show some _=_;rw[List.length_map]
 have n0:∀z:Int,z≠0→AL .neq (.int .i64 z) (.int .i64 0)=some (.bool true):=fun z hz=>by rw[b_neq];simp[hz]
 have e0:∀z:Int,z≠0→AL .eql (.int .i64 z) (.int .i64 0)=some (.bool false):=fun z hz=>by rw[b_eql,decide_eq_false hz]
 have e1':Cl 53 (AV [(GN fn k.now).weak,ANd]) (IG a0 a1 a2 a3 a4 a5 a6 fp fn k at_ ms .nil [] .nil [] .nil [])=some (.int .i64 (JR k at_ ms).2,IG a0 a1 a2 a3 a4 a5 a6 fp fn k at_ ms fb (JR k at_ ms).1 .nil [] .nil []):=by rcases hfn with rfl|rfl|rfl<;>exact e1
 have e2':Cl 53 (AV [(GN fb (JR k at_ ms).1).weak,ANe]) (IG a0 a1 a2 a3 a4 a5 a6 fp fn k at_ ms fb (JR k at_ ms).1 .nil [] .nil [])=some (.int .i64 (EX k at_ ms).2.2,IG a0 a1 a2 a3 a4 a5 a6 fp fn k at_ ms fb (JR k at_ ms).1 fd (EX k at_ ms).1 fs (EX k at_ ms).2.1):=by rcases hfb with rfl|rfl<;>exact e2
 have sp':∀H,Cl 58 (AB H [.int .i64 (k.N:Int),(V.lst 152 fs ((EX k at_ ms).2.1.map Aa)).weak]) []=some (.tup [.lst 39 .sh ((G7 k at_ ms).map (Bd .sh)),.int .i64 0],[]):=fun H=>by rcases hfs with rfl|rfl<;>exact sp
 have mk':∀H,Cl 59 (AB H [.int .i64 (k.w:Int),.int .i64 at_,(GN fd (EX k at_ ms).1).weak,(V.lst 39 .sh ((G7 k at_ ms).map (Bd .sh))).weak]) []=some (vGC (okR (mkC (k.w:Int) at_ (EX k at_ ms).1 (G7 k at_ ms))),[]):=fun H=>by rcases hfd with rfl|rfl<;>exact mk
 have lw:SQ true [.int .i64 (k.w:Int),.int .i64 at_,(GN fd (EX k at_ ms).1).weak,(V.lst 39 .sh ((G7 k at_ ms).map (Bd .sh))).weak]=true:=by rcases hfd with rfl|rfl<;>rfl
 rw[Ur]
 iterate 3 refine BR (R:=fun X=>X=_) rfl ?_
 refine rjn (R:=fun X=>X=_) ?_
 iterate 5 refine rb (R:=fun X=>X=_) rfl ?_
 refine rb (R:=fun X=>X=_) ne ?_
 refine(Aj _ _).trans ?_
 iterate 6 refine rb (R:=fun X=>X=_) rfl ?_
 refine rb (R:=fun X=>X=_) ge ?_
 refine(Aj _ _).trans ?_
 iterate 3 refine rb (R:=fun X=>X=_) rfl ?_
 refine rb (R:=fun X=>X=_) rfl ?_
 refine rb (R:=fun X=>X=_) rfl ?_
 refine rb (R:=fun X=>X=_) e1' ?_
 by_cases q1:(JR k at_ ms).2=0
 ·have q1':AL .eql (.int .i64 (JR k at_ ms).2) (.int .i64 0)=some (.bool true):=by rw[b_eql,decide_eq_true q1]
  refine rb (R:=fun X=>X=_) q1' ?_
  refine rjn (R:=fun X=>X=_) ?_
  refine(Af _ _).trans ?_
  refine rb (R:=fun X=>X=_) rfl ?_
  refine rb (R:=fun X=>X=_) rfl ?_
  refine rb (R:=fun X=>X=_) e2' ?_
  have qe:Vm k at_ ms=(EX k at_ ms).2.2:=by unfold Vm;rw[if_pos q1]
  by_cases q2:(EX k at_ ms).2.2=0
  ·have q2':AL .neq (.int .i64 (EX k at_ ms).2.2) (.int .i64 0)=some (.bool false):=by rw[b_neq];simp[q2]
   refine rb (R:=fun X=>X=_) q2' ?_
   refine(Aj _ _).trans ?_
   rw[if_pos (by rw[qe];exact q2),←lp]
   clear lp e1 e2 hO b1 b2 d3 d4 hb hd
   unfold doC at*
   generalize okR (mkC (k.w:Int) at_ (EX k at_ ms).1 (G7 k at_ ms))=cq at*
   generalize RJ cq.1=pq at*
   iterate 5 refine rb (R:=fun X=>X=_) rfl ?_
   refine rb (R:=fun X=>X=_) (sp' _) ?_
   iterate 8 refine rb (R:=fun X=>X=_) rfl ?_
   refine BR (R:=fun X=>X=_) lw ?_
   refine rb (R:=fun X=>X=_) (mk' _) ?_
   have pc:(vC .sh cq.1).pl=true:=by simp only[go_sem]
   have stc:∀(L:List V) (z:V),Cb (tyG tCm) 77 (L++[z]) (.ref L.length [] 77) (vC .sh cq.1).weak=some (L++[vC .sh cq.1]):=fun L z=>by rw[(V.PF _ pc).weak];exact Ku rfl ((V.PF _ pc).under _) _
   have cp':∀L,Cl 60 (AB L [(vC .sh cq.1).weak]) []=some (.tup [.str pq.1,.int .i64 (pq.2:Int)],[]):=fun L=>by rw[(V.PF _ pc).weak,AB,AB,(V.PF _ pc).reify];exact cp
   iterate 2 refine rb (R:=fun X=>X=_) rfl ?_
   refine rb (R:=fun X=>X=_) (stc _ _) ?_
   refine rb (R:=fun X=>X=_) rfl ?_
   refine rb (R:=fun X=>X=_) (cp' _) ?_
   iterate 4 refine rb (R:=fun X=>X=_) rfl ?_
   refine rb (R:=fun X=>X=_) lO ?_
   rfl
  ·have q2':AL .neq (.int .i64 (EX k at_ ms).2.2) (.int .i64 0)=some (.bool true):=n0 _ q2
   refine rb (R:=fun X=>X=_) q2' ?_
   refine(Af _ _).trans ?_
   rw[if_neg (by rw[qe];exact q2),qe]
   iterate 3 refine rb (R:=fun X=>X=_) rfl ?_
   rfl
 ·have qe:Vm k at_ ms=(JR k at_ ms).2:=by unfold Vm;rw[if_neg q1]
  refine rb (R:=fun X=>X=_) (e0 _ q1) ?_
  refine rjn (R:=fun X=>X=_) ?_
  refine(Aj _ _).trans ?_
  refine rb (R:=fun X=>X=_) (n0 _ q1) ?_
  refine(Af _ _).trans ?_
  rw[if_neg (by rw[qe];exact q1),qe]
  iterate 3 refine rb (R:=fun X=>X=_) rfl ?_
  rfl
end
end
section
open Go AM
section
variable {h:List V} {id:Nat} {fp fn:Fl} {k:Wkr}
theorem AGG {h:List V} {id:Nat} {u:TypeId} {fs:List V} {i:Nat} {v:V} (hh:h[id]?=some (.agg u fs)) (hf:fs[i]?=some v) (z:List V) (t:TypeId):AU (h++z) t (.ref id [i] t)=some v:=Cj (MF (ABy z hh) hf)
end
end
section
open Go AM
section
variable {h:List V} {id:Nat} {fp fn:Fl} {k:Wkr}
theorem YW (hk:h[id]?=some (H8 fp fn k)) (hfn:fn= .own∨fn= .nil∨fn= .sh) (hx:∀x∈k.now,JL x) (hn:k.now.length≤64):Cl 28 [.ref id [] 103] h=some (BO (vrootB k.now),h):=by
 have hR:=YF hx (by omega) .sh
 have rr:∀H,Cl 83 (AB H [(GN fn k.now).weak]) []=some (BO (vrootB k.now),[]):=fun H=>by rcases hfn with rfl|rfl|rfl<;>exact hR
 have ln:∀z,CP (h++z) 35 (.ref id [6] 35)=some ((GN fn k.now).weak):=fun z=>by
  have:=AGG hk (i:=6) (v:=GN fn k.now) rfl z 35
  simp only[CP,this,Option.map_some]
 have pa:=Q9 (vrootB k.now)
 have l3:=FW k.now
 have ty:tyG 65 (BO (vrootB k.now))=true:=rfl
 have st:=Ku (H:=h) (z:=V.agg 65 (List.replicate 32 (V.int .u8 0))) ty ((V.PF _ pa).under _) 66
 rw[ALx]
 generalize vrootB k.now=r at*
 refine(AA (show BI (.ref id [] 103)=some (.ref id [] 103)from rfl) _).trans ?_
 refine(AA (show fA 103 35 6 (.ref id [] 103)=some (.ref id [6] 35)from rfl) _).trans ?_
 refine(AA (ln _) _).trans ?_
 refine(AA (rr _) _).trans ?_
 refine(AA st _).trans ?_
 refine(AA (Xh _ _ _) _).trans ?_
 simp only[AP,(V.PF _ pa).unmut,(V.PF _ pa).norm,(V.PF _ pa).clean,(V.PF _ pa).over,Bool.and_self,if_true,Qm]
end
theorem AGH {e:Int} {c:List UInt8} {bs:List (List UInt8)} (hn:bs.length≤1000):∀(m i:Nat),i+m=bs.length→
 Uo (.ref 0 [] 44) (.ref 1 [] 44) (.int .i64 (i:Int)) [SY e c .sh bs,SY e c .sh bs]=some (.bool true,[]):=by
 intro m
 induction m with
 |zero=>
  intro i hi
  have ls:AL .lss (.int .i64 (i:Int)) (.int .i64 (bs.length:Int))=some (.bool false):=by rw[b_lss,decide_eq_false (by omega)]
  have ll:EZ (V.lst 9 .sh (bs.map V.str)).weak=some (.int .i64 (bs.length:Int)):=by show some _=_;rw[List.length_map]
  rw[TF]
  iterate 2 refine rb (R:=fun X=>X=_) rfl ?_
  refine(AA ll _).trans ?_
  refine(AA ls _).trans ?_
  refine(Aj _ _).trans ?_
  rfl
 |succ m ih=>
  intro i hi
  have h:i<bs.length:=by omega
  have ls:AL .lss (.int .i64 (i:Int)) (.int .i64 (bs.length:Int))=some (.bool true):=by rw[b_lss,decide_eq_true (by omega)]
  have ll:EZ (V.lst 9 .sh (bs.map V.str)).weak=some (.int .i64 (bs.length:Int)):=by show some _=_;rw[List.length_map]
  have ix:EQ 9 (V.lst 9 .sh (bs.map V.str)).weak (.int .i64 (i:Int))=some (.rop 9 (.str bs[i])):=by
   show EQ _ (.lst _ .sh _) _=_
   rw[EI,List.getElem?_map,List.getElem?_eq_getElem h];rfl
  have ad:AL .add (.int .i64 (i:Int)) (.int .i64 1)=some (.int .i64 ((i+1:Nat):Int)):=by rw[Cf,wrap_i64 (by omega) (by omega)];rfl
  have ne:AL .neq (.str bs[i]) (.str bs[i])=some (.bool false):=by
   simp only[AL]
   congr 2
   simp
  have lp:∀H,AU H 9 (.rop 9 (.str bs[i]))=some (.str bs[i]):=fun H=>Eo
  rw[←ih (i+1) (by omega),TF]
  iterate 2 refine rb (R:=fun X=>X=_) rfl ?_
  refine(AA ll _).trans ?_
  refine(AA ls _).trans ?_
  refine(Af _ _).trans ?_
  iterate 2 refine rb (R:=fun X=>X=_) rfl ?_
  refine(AA ix _).trans ?_
  refine(AA (lp _) _).trans ?_
  iterate 2 refine rb (R:=fun X=>X=_) rfl ?_
  refine(AA ix _).trans ?_
  refine(AA (lp _) _).trans ?_
  refine(AA ne _).trans ?_
  refine(Aj _ _).trans ?_
  exact AA ad _
theorem AGI (e:Int) (c:List UInt8) {bs:List (List UInt8)} (hn:bs.length≤1000):Cl 16 [SY e c .sh bs,SY e c .sh bs] []=some (.bool true,[]):=by
 have lp:=AGH (e:=e) (c:=c) hn bs.length 0 (by omega)
 have ll:EZ (V.lst 9 .sh (bs.map V.str)).weak=some (.int .i64 (bs.length:Int)):=by show some _=_;rw[List.length_map]
 have nz:∀z:Int,AL .neq (.int .i64 z) (.int .i64 z)=some (.bool false):=fun z=>by rw[b_neq];simp
 have ns:AL .neq (.str c) (.str c)=some (.bool false):=by
  simp only[AL]
  congr 2
  simp
 rw[←lp,ALw]
 refine BR (R:=fun X=>X=_) rfl ?_
 refine BR (R:=fun X=>X=_) rfl ?_
 refine rjn (R:=fun X=>X=_) ?_
 iterate 4 refine rb (R:=fun X=>X=_) rfl ?_
 refine(AA (nz e) _).trans ?_
 refine(Aj _ _).trans ?_
 iterate 4 refine rb (R:=fun X=>X=_) rfl ?_
 refine(AA ns _).trans ?_
 refine(Aj _ _).trans ?_
 iterate 2 refine rb (R:=fun X=>X=_) rfl ?_
 refine(AA ll _).trans ?_
 iterate 2 refine rb (R:=fun X=>X=_) rfl ?_
 refine(AA ll _).trans ?_
 refine(AA (nz _) _).trans ?_
 rfl
end
section
open Go AM
section
variable {a b c:V}
end
end
section
open Go AM
section
variable {a b:V}
theorem AGJ {g:Grf} {j:Job} {N w:Nat} (ha:BP 4 [a,b]=true) {L:List Nat} (hL:∀v∈L,v<64) (hn:L.length≤64):∀(n i:Nat) (f:Fl) (xs:List Vtx),i+n=L.length→xs.length=i→(f= .own∨f= .nil)→∃f':Fl,(f'= .own∨f'= .nil)∧
 O3 (.ref 3 [] 26) (.ref 4 [] 103) (ZA .sh L) (.int .i64 (L.length:Int)) (.int .i64 (i:Int)) 2 [a,b,vG .sh g,vJ j,vWk g j N w f xs]=
  some (.tup [.ref 4 [] 103,.int .i64 0],[a,b,vG .sh g,vJ j,vWk g j N w f' (xs++(L.drop i).map fun(v:Nat)=>firstX j (v:Int))]):=by
 intro n
 induction n with
 |zero=>
  intro i f xs hi hx hf
  refine⟨f,hf,?_⟩
  have ls:AL .lss (.int .i64 (i:Int)) (.int .i64 (L.length:Int))=some (.bool false):=by rw[b_lss,decide_eq_false (by omega)]
  rw[List.drop_eq_nil_of_le (by omega),List.map_nil,List.append_nil,JC]
  simp(disch:=first|assumption|omega|(with_reducible rfl)|(simp only[go_sem];done)|(simp only[go_sem];omega)|fail) only[↓reduceIte,↓AO,Nat.reduceAdd,go_sem,ls]
  rfl
 |succ n ih=>
  intro i f xs hi hx hf
  have h:i<L.length:=by omega
  have hv:=hL _ (List.getElem_mem h)
  obtain⟨f',hf',ih'⟩:=ih (i+1) .own (xs++[firstX j (L[i]:Int)]) (by omega) (by simp;omega) (Or.inl rfl)
  refine⟨f',hf',?_⟩
  have ls:AL .lss (.int .i64 (i:Int)) (.int .i64 (L.length:Int))=some (.bool true):=by rw[b_lss,decide_eq_true (by omega)]
  have ix:EQ 3 (ZA .sh L) (.int .i64 (i:Int))=some (.rop 3 (.int .i64 (L[i]:Int))):=by
   rw[ZA,EI,List.getElem?_map,List.getElem?_eq_getElem h];rfl
  have hfi:=YD j (v:=(L[i]:Int)) (by omega) (by omega)
  have ad:AL .add (.int .i64 (i:Int)) (.int .i64 1)=some (.int .i64 ((i+1:Nat):Int)):=by rw[Cf,wrap_i64 (by omega) (by omega)];rfl
  have pg:(vG .sh g).pl=true:=by simp only[go_sem]
  have aw:∀v:V,BP 4 ([a,b,vG .sh g,vJ j,v].set 4 void)=true:=by
   intro v
   simp only[BP,Bool.and_eq_true]at ha
   simp only[List.set_cons_succ,List.set_cons_zero,BP,ha.1,ha.2.1,(V.PF _ pg).away];rfl
  have rj:∀h:List V,AB h [vJ j,.int .i64 (L[i]:Int)]=[vJ j,.int .i64 (L[i]:Int)]:=fun h=>rfl
  have cf:∀(v:V) (k:V→List V→Rv),DX P CO W (some (.ref 4 [] 103)) (.clo 44 []) [vJ j,.int .i64 (L[i]:Int)] [a,b,vG .sh g,vJ j,v] k=k (CW (firstX j (L[i]:Int))) [a,b,vG .sh g,vJ j,v]:=
   fun v k=>RN (by kernel_rfl) (by kernel_rfl) (v:=v) rfl (aw v) rfl (rj _) ((V.PF _ (AFT _)).away 4) hfi k
  have tk:∀(y0 y1 y2 y3 y4 y5 y7:V) (q:Fl) (R:List V),BM [a,b,vG .sh g,vJ j,.agg tWk [y0,y1,y2,y3,y4,y5,.lst 86 q R,y7]] 35 (.ref 4 [6] 35)=some (.lst 86 q R,[a,b,vG .sh g,vJ j,.agg tWk [y0,y1,y2,y3,y4,y5,.lst 86 q.wk R,y7]]):=
   fun y0 y1 y2 y3 y4 y5 y7 q R=>YU (h:=[a,b,vG .sh g,vJ j,.agg tWk [y0,y1,y2,y3,y4,y5,.lst 86 q R,y7]]) (id:=4) rfl rfl
  have sb6:∀p t,Dl (.ref 4 [] 103) (.ref 4 p t)=true:=fun _ _=>rfl
  have sb4:Dl (.ref 3 [] 26) (.ref 3 [] 26)=true:=rfl
  have df:(Jd (.ref 4 [] 103) (.ref 3 [] 26)&&true)=true:=rfl
  have nn:BI (.ref 4 [] 103)=some (.ref 4 [] 103):=rfl
  have ap:∀h:List V,GK 86 (tyG Y9) false h (.lst 86 f (xs.map CW)) (.lst 86 .own [CW (firstX j (L[i]:Int))])=some (.lst 86 .own ((xs++[firstX j (L[i]:Int)]).map CW)):=fun h=>by
   have cl:AQ [CW (firstX j (L[i]:Int))]=true:=rfl
   have ty:[CW (firstX j (L[i]:Int))].all (tyG Y9)=true:=rfl
   rw[List.map_append]
   rcases hf with rfl|rfl
   ·rw[DT cl ty (by simp;omega)];rfl
   ·rw[Dn cl ty (by simp;omega)];rfl
  have e:xs++(L.drop i).map (fun(v:Nat)=>firstX j (v:Int))=xs++[firstX j (L[i]:Int)]++(L.drop (i+1)).map (fun(v:Nat)=>firstX j (v:Int)):=by
   rw[List.drop_eq_getElem_cons h,List.map_cons,List.append_assoc];rfl
  rw[e,←ih',JC]
  clear ih ih' e aw hL hfi
  generalize firstX j (L[i]:Int)=y at*
  generalize (L[i]:Int)=z at*
  generalize (i+1:Nat)=i2 at*
  generalize (L.length:Int)=ll at*
  generalize ZA .sh L=LL at*
  rcases hf with rfl|rfl
  all_goals (repeat' with_reducible first|refine(Af _ _).trans ?_|refine(Aj _ _).trans ?_|refine(AO _ _).trans ?_|((first|(refine' (AA ?_ _).trans ?_;rotate_left)|refine(if_pos ?_).trans ?_|refine(BN ?_ _ _).trans ?_);focus (first|rfl|(simp(disch:=first|assumption|omega|with_reducible rfl|(simp only[go_sem]<;>omega)|fail) only[↓reduceIte,↓AO,Nat.reduceAdd,go_sem,Bool.not_true,Bool.not_false,ls,ix,df,nn,sb6,tk,sb4,rj,VK,VL]<;>first|rfl|omega)|assumption|omega))|(refine(Az ?_ _ _).trans ?_;focus (first|(simp(disch:=first|assumption|omega|with_reducible rfl|(simp only[go_sem]<;>omega)|fail) only[↓reduceIte,↓AO,Nat.reduceAdd,go_sem,Bool.not_true,Bool.not_false,ls,ix,df,nn,sb6,tk,sb4,rj,VK,VL]<;>omega)|assumption|omega))|fail)
  all_goals refine(cf _ _).trans ?_
  all_goals (repeat' with_reducible first|refine(Af _ _).trans ?_|refine(Aj _ _).trans ?_|refine(AO _ _).trans ?_|((first|(refine' (AA ?_ _).trans ?_;rotate_left)|refine(if_pos ?_).trans ?_|refine(BN ?_ _ _).trans ?_);focus (first|rfl|(simp(disch:=first|assumption|omega|with_reducible rfl|(simp only[go_sem]<;>omega)|fail) only[↓reduceIte,↓AO,Nat.reduceAdd,go_sem,Bool.not_true,Bool.not_false,ap,nn,ad]<;>first|rfl|omega)|assumption|omega))|(refine(Az ?_ _ _).trans ?_;focus (first|(simp(disch:=first|assumption|omega|with_reducible rfl|(simp only[go_sem]<;>omega)|fail) only[↓reduceIte,↓AO,Nat.reduceAdd,go_sem,Bool.not_true,Bool.not_false,ap,nn,ad]<;>omega)|assumption|omega))|fail)
  all_goals rfl
end
section
variable {a b:V}
theorem AGK {g:Grf} (hl:g.es.length<1000000) {j:Job} (hj:Ea g j=true) {N w:Nat} (h1:1≤N) (hN:N≤64) (hw:w<N) (ha:BP 4 [a,b]=true):∃f':Fl,(f'= .own∨f'= .nil)∧
 Cl 11 [vG .sh g,vJ j,.int .i64 (N:Int),.int .i64 (w:Int)] [a,b]=some (.tup [.ref 4 [] 103,.int .i64 0],[a,b,vG .sh g,vJ j,vWk g j N w f' (Vk g j N w)]):=by
 have hg':=Vl hj
 have hlen:=Ol g.n.toNat N w
 obtain⟨f',hf',lp⟩:=AGJ (g:=g) (j:=j) (N:=N) (w:=w) ha (L:=ofL g.n.toNat N w) (fun v hv=>by have:=Zn hv;omega) (by omega) (ofL g.n.toNat N w).length 0 .nil [] (by omega) rfl (Or.inr rfl)
 refine⟨f',hf',?_⟩
 rw[List.drop_zero,List.nil_append]at lp
 have hc:=MQ hl j
 rw[if_pos hj]at hc
 have hof:=AFu (n:=g.n.toNat) (N:=N) (w:=w) (by omega) (by omega) (by omega) hN hw
 rw[show(g.n.toNat:Int)=g.n by omega]at hof
 have ce:=UJ (l:=g.es) (by omega)
 rw[show Vk g j N w=(ofL g.n.toNat N w).map (fun(v:Nat)=>firstX j (v:Int))from rfl,←lp,AEO]
 have lL:EZ (ZA .sh (ofL g.n.toNat N w))=some (.int .i64 ((ofL g.n.toNat N w).length:Int)):=by show some _=_;rw[List.length_map]
 clear lp hlen
 generalize ofL g.n.toNat N w=L at*
 simp(disch:=first|assumption|omega|(with_reducible rfl)|(simp only[go_sem];done)|(simp only[go_sem];omega)|fail) only[↓reduceIte,↓AO,Nat.reduceAdd,go_sem,hc,hof,ce,lL]
 rfl
end
end
section
open Go AM
section
variable {a b c d e:V}
theorem AGL {g:Grf} {j:Job} {N w:Nat} (ha:BP 7 [a,b,c,d,e]=true) {L:List Nat} (hL:∀v∈L,v<64) (hn:L.length≤64):∀(n i:Nat) (f:Fl) (xs:List Vtx),i+n=L.length→xs.length=i→(f= .own∨f= .nil)→∃f':Fl,(f'= .own∨f'= .nil)∧
 O3 (.ref 6 [] 26) (.ref 7 [] 103) (ZA .sh L) (.int .i64 (L.length:Int)) (.int .i64 (i:Int)) 5 [a,b,c,d,e,vG .sh g,vJ j,vWk g j N w f xs]=
  some (.tup [.ref 7 [] 103,.int .i64 0],[a,b,c,d,e,vG .sh g,vJ j,vWk g j N w f' (xs++(L.drop i).map fun(v:Nat)=>firstX j (v:Int))]):=by
 intro n
 induction n with
 |zero=>
  intro i f xs hi hx hf
  refine⟨f,hf,?_⟩
  have ls:AL .lss (.int .i64 (i:Int)) (.int .i64 (L.length:Int))=some (.bool false):=by rw[b_lss,decide_eq_false (by omega)]
  rw[List.drop_eq_nil_of_le (by omega),List.map_nil,List.append_nil,JC]
  simp(disch:=first|assumption|omega|(with_reducible rfl)|(simp only[go_sem];done)|(simp only[go_sem];omega)|fail) only[↓reduceIte,↓AO,Nat.reduceAdd,go_sem,ls]
  rfl
 |succ n ih=>
  intro i f xs hi hx hf
  have h:i<L.length:=by omega
  have hv:=hL _ (List.getElem_mem h)
  obtain⟨f',hf',ih'⟩:=ih (i+1) .own (xs++[firstX j (L[i]:Int)]) (by omega) (by simp;omega) (Or.inl rfl)
  refine⟨f',hf',?_⟩
  have ls:AL .lss (.int .i64 (i:Int)) (.int .i64 (L.length:Int))=some (.bool true):=by rw[b_lss,decide_eq_true (by omega)]
  have ix:EQ 3 (ZA .sh L) (.int .i64 (i:Int))=some (.rop 3 (.int .i64 (L[i]:Int))):=by
   rw[ZA,EI,List.getElem?_map,List.getElem?_eq_getElem h];rfl
  have hfi:=YD j (v:=(L[i]:Int)) (by omega) (by omega)
  have ad:AL .add (.int .i64 (i:Int)) (.int .i64 1)=some (.int .i64 ((i+1:Nat):Int)):=by rw[Cf,wrap_i64 (by omega) (by omega)];rfl
  have pg:(vG .sh g).pl=true:=by simp only[go_sem]
  have aw:∀v:V,BP 7 ([a,b,c,d,e,vG .sh g,vJ j,v].set 7 void)=true:=by
   intro v
   simp only[BP,Bool.and_eq_true]at ha
   simp only[List.set_cons_succ,List.set_cons_zero,BP,ha.1,ha.2.1,ha.2.2.1,ha.2.2.2.1,ha.2.2.2.2.1,(V.PF _ pg).away];rfl
  have rj:∀h:List V,AB h [vJ j,.int .i64 (L[i]:Int)]=[vJ j,.int .i64 (L[i]:Int)]:=fun h=>rfl
  have cf:∀(v:V) (k:V→List V→Rv),DX P CO W (some (.ref 7 [] 103)) (.clo 44 []) [vJ j,.int .i64 (L[i]:Int)] [a,b,c,d,e,vG .sh g,vJ j,v] k=k (CW (firstX j (L[i]:Int))) [a,b,c,d,e,vG .sh g,vJ j,v]:=
   fun v k=>RN (by kernel_rfl) (by kernel_rfl) (v:=v) rfl (aw v) rfl (rj _) ((V.PF _ (AFT _)).away 7) hfi k
  have tk:∀(y0 y1 y2 y3 y4 y5 y7:V) (q:Fl) (R:List V),BM [a,b,c,d,e,vG .sh g,vJ j,.agg tWk [y0,y1,y2,y3,y4,y5,.lst 86 q R,y7]] 35 (.ref 7 [6] 35)=some (.lst 86 q R,[a,b,c,d,e,vG .sh g,vJ j,.agg tWk [y0,y1,y2,y3,y4,y5,.lst 86 q.wk R,y7]]):=
   fun y0 y1 y2 y3 y4 y5 y7 q R=>YU (h:=[a,b,c,d,e,vG .sh g,vJ j,.agg tWk [y0,y1,y2,y3,y4,y5,.lst 86 q R,y7]]) (id:=7) rfl rfl
  have sb6:∀p t,Dl (.ref 7 [] 103) (.ref 7 p t)=true:=fun _ _=>rfl
  have sb4:Dl (.ref 6 [] 26) (.ref 6 [] 26)=true:=rfl
  have df:(Jd (.ref 7 [] 103) (.ref 6 [] 26)&&true)=true:=rfl
  have nn:BI (.ref 7 [] 103)=some (.ref 7 [] 103):=rfl
  have ap:∀h:List V,GK 86 (tyG Y9) false h (.lst 86 f (xs.map CW)) (.lst 86 .own [CW (firstX j (L[i]:Int))])=some (.lst 86 .own ((xs++[firstX j (L[i]:Int)]).map CW)):=fun h=>by
   have cl:AQ [CW (firstX j (L[i]:Int))]=true:=rfl
   have ty:[CW (firstX j (L[i]:Int))].all (tyG Y9)=true:=rfl
   rw[List.map_append]
   rcases hf with rfl|rfl
   ·rw[DT cl ty (by simp;omega)];rfl
   ·rw[Dn cl ty (by simp;omega)];rfl
  have e:xs++(L.drop i).map (fun(v:Nat)=>firstX j (v:Int))=xs++[firstX j (L[i]:Int)]++(L.drop (i+1)).map (fun(v:Nat)=>firstX j (v:Int)):=by
   rw[List.drop_eq_getElem_cons h,List.map_cons,List.append_assoc];rfl
  rw[e,←ih',JC]
  clear ih ih' e aw hL hfi
  generalize firstX j (L[i]:Int)=y at*
  generalize (L[i]:Int)=z at*
  generalize (i+1:Nat)=i2 at*
  generalize (L.length:Int)=ll at*
  generalize ZA .sh L=LL at*
  rcases hf with rfl|rfl
  all_goals (repeat' with_reducible first|refine(Af _ _).trans ?_|refine(Aj _ _).trans ?_|refine(AO _ _).trans ?_|((first|(refine' (AA ?_ _).trans ?_;rotate_left)|refine(if_pos ?_).trans ?_|refine(BN ?_ _ _).trans ?_);focus (first|rfl|(simp(disch:=first|assumption|omega|with_reducible rfl|(simp only[go_sem]<;>omega)|fail) only[↓reduceIte,↓AO,Nat.reduceAdd,go_sem,Bool.not_true,Bool.not_false,ls,ix,df,nn,sb6,tk,sb4,rj,VK,VL]<;>first|rfl|omega)|assumption|omega))|(refine(Az ?_ _ _).trans ?_;focus (first|(simp(disch:=first|assumption|omega|with_reducible rfl|(simp only[go_sem]<;>omega)|fail) only[↓reduceIte,↓AO,Nat.reduceAdd,go_sem,Bool.not_true,Bool.not_false,ls,ix,df,nn,sb6,tk,sb4,rj,VK,VL]<;>omega)|assumption|omega))|fail)
  all_goals refine(cf _ _).trans ?_
  all_goals (repeat' with_reducible first|refine(Af _ _).trans ?_|refine(Aj _ _).trans ?_|refine(AO _ _).trans ?_|((first|(refine' (AA ?_ _).trans ?_;rotate_left)|refine(if_pos ?_).trans ?_|refine(BN ?_ _ _).trans ?_);focus (first|rfl|(simp(disch:=first|assumption|omega|with_reducible rfl|(simp only[go_sem]<;>omega)|fail) only[↓reduceIte,↓AO,Nat.reduceAdd,go_sem,Bool.not_true,Bool.not_false,ap,nn,ad]<;>first|rfl|omega)|assumption|omega))|(refine(Az ?_ _ _).trans ?_;focus (first|(simp(disch:=first|assumption|omega|with_reducible rfl|(simp only[go_sem]<;>omega)|fail) only[↓reduceIte,↓AO,Nat.reduceAdd,go_sem,Bool.not_true,Bool.not_false,ap,nn,ad]<;>omega)|assumption|omega))|fail)
  all_goals rfl
end
section
variable {a b c d e:V}
theorem AGM {g:Grf} (hl:g.es.length<1000000) {j:Job} (hj:Ea g j=true) {N w:Nat} (h1:1≤N) (hN:N≤64) (hw:w<N) (ha:BP 7 [a,b,c,d,e]=true):∃f':Fl,(f'= .own∨f'= .nil)∧
 Cl 11 [vG .sh g,vJ j,.int .i64 (N:Int),.int .i64 (w:Int)] [a,b,c,d,e]=some (.tup [.ref 7 [] 103,.int .i64 0],[a,b,c,d,e,vG .sh g,vJ j,vWk g j N w f' (Vk g j N w)]):=by
 have hg':=Vl hj
 have hlen:=Ol g.n.toNat N w
 obtain⟨f',hf',lp⟩:=AGL (g:=g) (j:=j) (N:=N) (w:=w) ha (L:=ofL g.n.toNat N w) (fun v hv=>by have:=Zn hv;omega) (by omega) (ofL g.n.toNat N w).length 0 .nil [] (by omega) rfl (Or.inr rfl)
 refine⟨f',hf',?_⟩
 rw[List.drop_zero,List.nil_append]at lp
 have hc:=MQ hl j
 rw[if_pos hj]at hc
 have hof:=AFu (n:=g.n.toNat) (N:=N) (w:=w) (by omega) (by omega) (by omega) hN hw
 rw[show(g.n.toNat:Int)=g.n by omega]at hof
 have ce:=UJ (l:=g.es) (by omega)
 rw[show Vk g j N w=(ofL g.n.toNat N w).map (fun(v:Nat)=>firstX j (v:Int))from rfl,←lp,AEO]
 have lL:EZ (ZA .sh (ofL g.n.toNat N w))=some (.int .i64 ((ofL g.n.toNat N w).length:Int)):=by show some _=_;rw[List.length_map]
 clear lp hlen
 generalize ofL g.n.toNat N w=L at*
 simp(disch:=first|assumption|omega|(with_reducible rfl)|(simp only[go_sem];done)|(simp only[go_sem];omega)|fail) only[↓reduceIte,↓AO,Nat.reduceAdd,go_sem,hc,hof,ce,lL]
 rfl
end
end
section
namespace AM
open Go
mutual
def UK (P:Program) (A:Ann) (Q:FuncId→List V→List V→Option (V×List V)):Nat→FuncId→List V→List V→Option (V×List V)
 |0,_,_,_=>none
 |k+1,f,vs,h=>match Q f vs h with
  |some r=>some r
  |none=>body P A ⟨UK P A Q k,UL P A Q k⟩ f vs h
def UL (P:Program) (A:Ann) (Q:FuncId→List V→List V→Option (V×List V)):Nat→FuncId→Nat→Code→St→Option (Ex×St)
 |0,_,_,_,_=>none
 |k+1,fn,blk,b,st=>round P A ⟨UK P A Q k,UL P A Q k⟩ fn blk b st
end
theorem Orc.le.limO {O O':Orc} (hl:Orc.le O O'):LimO (fun n=>if n=0 then O else O') O':=by
 constructor
 ·intro f vs h
  refine⟨fun n r hr=> ?_,fun r=>⟨fun hr=>⟨1,by simpa using hr⟩,fun⟨n,hn⟩=> ?_⟩⟩
  ·by_cases h0:n=0
   ·subst h0;simpa using hl.1 _ _ _ _ (by simpa using hr)
   ·simpa [h0]using hr
  ·by_cases h0:n=0
   ·subst h0;exact hl.1 _ _ _ _ (by simpa using hn)
   ·simpa [h0]using hn
 ·intro fn blk b st
  refine⟨fun n r hr=> ?_,fun r=>⟨fun hr=>⟨1,by simpa using hr⟩,fun⟨n,hn⟩=> ?_⟩⟩
  ·by_cases h0:n=0
   ·subst h0;simpa using hl.2 _ _ _ _ _ (by simpa using hr)
   ·simpa [h0]using hr
  ·by_cases h0:n=0
   ·subst h0;exact hl.2 _ _ _ _ _ (by simpa using hn)
   ·simpa [h0]using hn
theorem A7 {P:Program} {A:Ann} {Q:FuncId→List V→List V→Option (V×List V)} (hQ:∀f vs h r,Q f vs h=some r→H6 P A f vs h=some r) (k:Nat):
 (∀f vs h r,UK P A Q k f vs h=some r→H6 P A f vs h=some r)∧(∀fn blk b st r,UL P A Q k fn blk b st=some r→TA P A fn blk b st=some r):=by
 induction k with
 |zero=>exact⟨fun _ _ _ _ h=>by simp[UK]at h,fun _ _ _ _ _ h=>by simp[UL]at h⟩
 |succ k ih=>
  have hl:Orc.le ⟨UK P A Q k,UL P A Q k⟩ (IQ P A):=ih
  constructor
  ·intro f vs h r hr
   simp only[UK]at hr
   split at hr
   ·rename_i e;rw[←Option.some.inj hr];exact hQ _ _ _ _ e
   ·rw[WE]
    have:=(Oz (P:=P) (A:=A) hl.limO f vs h).up 0 r (by simpa using hr)
    simpa using this
  ·intro fn blk b st r hr
   simp only[UL]at hr
   rw[WH]
   have:=(L6 (P:=P) (A:=A) hl.limO fn blk b st).up 0 r (by simpa using hr)
   simpa using this
end AM
end
section
open Go AM
def AGN:List V→Option (List UInt8)
 |[]=>some []
 | .int .u8 (.ofNat n)::l=>if n<256 then(AGN l).map (UInt8.ofNat n::·)else none
 |_=>none
def AGO:List V→Option (List (Fl×List UInt8))
 |[]=>some []
 | .lst e f xs::l=>if e=5 then(AGN xs).bind fun b=>(AGO l).map ((f,b)::·)else none
 |_=>none
theorem ACa:∀(xs:List V) (l:List UInt8),AGN xs=some l→xs=bytesOf l
 |[],l,h=>by simp[AGN]at h;subst h;rfl
 |x::xs,l,h=>by
  unfold AGN at h
  split at h
  ·rename_i e;exact absurd e (by simp)
  ·rename_i n l' e
   cases e
   split at h
   ·rename_i hn
    obtain⟨l',h1,rfl⟩:=Option.map_eq_some_iff.1 h
    rw[ACa xs l' h1]
    simp[bytesOf,Nat.mod_eq_of_lt hn]
   ·cases h
  ·cases h
theorem ACb:∀(xs:List V) (L:List (Fl×List UInt8)),AGO xs=some L→xs=parts L
 |[],l,h=>by simp[AGO]at h;subst h;rfl
 |x::xs,l,h=>by
  unfold AGO at h
  split at h
  ·rename_i e;exact absurd e (by simp)
  ·rename_i e f ys l' he
   cases he
   split at h
   ·rename_i hn
    subst hn
    obtain⟨b,h1,h2⟩:=Option.bind_eq_some_iff.1 h
    obtain⟨l',h3,rfl⟩:=Option.map_eq_some_iff.1 h2
    rw[ACb xs l' h3,ACa ys b h1]
    simp[parts];rfl
   ·cases h
  ·cases h
def AQP:List V→List V→Option (V×List V)
 |[.lst e fl xs],[]=>if e=172 then(AGO xs).bind fun L=>if L.length<2147483648∧(flat L).length<2147480000∧0<(flat L).length then some (BO (Xo (flat L)),[])else none else none
 |_,_=>none
def oq (f:FuncId) (vs h:List V):Option (V×List V):=
 bif Nat.beq f 176 then AQP vs h else none
theorem AQQ {a b:Nat} (h:¬a=b):Nat.beq a b=false:=by
 cases e:Nat.beq a b with
 |false=>rfl
 |true=>exact absurd (Nat.eq_of_beq_eq_true e) h
theorem AQR (f:FuncId) (vs h:List V) (r:V×List V) (e:oq f vs h=some r):Cl f vs h=some r:=by
 unfold oq at e
 by_cases h1:f=176
 ·subst h1
  rw[show Nat.beq 176 176=true from rfl,cond_true]at e
  unfold AQP at e
  split at e
  ·rename_i a fl xs
   split at e
   ·rename_i ha
    subst ha
    obtain⟨L,h2,h3⟩:=Option.bind_eq_some_iff.1 e
    split at h3
    ·rename_i hc
     rw[←Option.some.inj h3,ACb xs L h2]
     exact Xq L hc.1 fl hc.2.1 hc.2.2
    ·cases h3
   ·cases e
  ·cases e
 ·rw[AQQ h1]at e
  cases e
end
section
open Go AM
def ALQ:List V→List V→Option (V×List V)
 |[.str s],[]=>if s.length<2147480000 then some (.str (Xo s),[])else none
 |_,_=>none
def oq2 (f:FuncId) (vs h:List V):Option (V×List V):=
 bif Nat.beq f 151 then ALQ vs h else oq f vs h
theorem Bh (f:FuncId) (vs h:List V) (r:V×List V) (e:oq2 f vs h=some r):Cl f vs h=some r:=by
 unfold oq2 at e
 by_cases h1:f=151
 ·subst h1
  rw[show Nat.beq 151 151=true from rfl,cond_true]at e
  unfold ALQ at e
  split at e
  ·rename_i s
   split at e
   ·rename_i hc
    rw[←Option.some.inj e]
    exact AFS hc
   ·cases e
  ·cases e
 ·rw[AQQ h1]at e
  exact AQR f vs h r e
end
section
open Go AM
structure Ent where
 f:FuncId
 vs:List V
 h:List V
 r:V×List V
def Ent.ok (e:Ent):Prop:=Cl e.f e.vs e.h=some e.r
def lkE (T:List Ent) (Q:FuncId→List V→List V→Option (V×List V)) (f:FuncId) (vs h:List V):Option (V×List V):=
 match T.find? fun e=>Nat.beq e.f f&&II e.vs vs&&II e.h h with
 |some e=>some e.r
 |none=>Q f vs h
theorem Bj {T:List Ent} {Q:FuncId→List V→List V→Option (V×List V)} (hT:∀e∈T,e.ok) (hQ:∀f vs h r,Q f vs h=some r→Cl f vs h=some r) (f:FuncId) (vs h:List V) (r:V×List V) (hr:lkE T Q f vs h=some r):Cl f vs h=some r:=by
 unfold lkE at hr
 split at hr
 ·rename_i e he
  have h1:=List.find?_some he
  have h2:=hT e (List.mem_of_find?_eq_some he)
  simp only[Bool.and_eq_true]at h1
  obtain⟨⟨h3,h4⟩,h5⟩:=h1
  rw[←Option.some.inj hr,←Nat.eq_of_beq_eq_true h3,←E5 _ _ h4,←E5 _ _ h5]
  exact h2
 ·exact hQ _ _ _ _ hr
def by8 (l:List Int):List V:=l.map (V.int .u8)
def T0:List Ent:=[]
theorem ALR:∀e∈T0,e.ok:=by intro e he;cases he
def T1:List Ent:=⟨11,[.agg 23 [.int .i64 2,.lst 96 .sh [.agg 95 [.int .i64 0,.int .i64 1,.int .i64 5]]],.agg 25 [.str [115,115,115,112],.int .i64 0,.int .i64 3],.int .i64 1,.int .i64 0],[.agg 23 [.int .i64 2,.lst 96 .sh [.agg 95 [.int .i64 0,.int .i64 1,.int .i64 5]]]],(.tup [.ref 3 [] 103,.int .i64 0],[.agg 23 [.int .i64 2,.lst 96 .sh [.agg 95 [.int .i64 0,.int .i64 1,.int .i64 5]]],.agg 23 [.int .i64 2,.lst 96 .sh [.agg 95 [.int .i64 0,.int .i64 1,.int .i64 5]]],.agg 25 [.str [115,115,115,112],.int .i64 0,.int .i64 3],.agg 102 [.agg 23 [.int .i64 2,.lst 96 .sh [.agg 95 [.int .i64 0,.int .i64 1,.int .i64 5]]],.agg 25 [.str [115,115,115,112],.int .i64 0,.int .i64 3],.int .i64 1,.int .i64 0,.int .i64 0,.lst 86 .nil [],.lst 86 .own [.agg 85 [.int .i64 0,.int .i64 0,.bool true,.bool false,.int .i64 0],.agg 85 [.int .i64 1,.int .i64 (-1),.bool true,.bool false,.int .i64 0]],.bool false]])⟩::T0
theorem ALS:∀e∈T1,e.ok:=List.forall_mem_cons.2 ⟨(A7 (Bj ALR Bh) 400).1 _ _ _ _ (by kernel_rfl),ALR⟩
def T2:List Ent:=⟨64,[.lst 86 .sh [.agg 85 [.int .i64 0,.int .i64 0,.bool true,.bool false,.int .i64 0],.agg 85 [.int .i64 1,.int .i64 (-1),.bool true,.bool false,.int .i64 0]]],[],(.lst 9 .sh [.str [0,0,1,0,0],.str [1,1,1,0,0]],[])⟩::T1
theorem ALT:∀e∈T2,e.ok:=List.forall_mem_cons.2 ⟨(A7 (Bj ALS Bh) 400).1 _ _ _ _ (by kernel_rfl),ALS⟩
def T3:List Ent:=⟨83,[.lst 86 .sh [.agg 85 [.int .i64 0,.int .i64 0,.bool true,.bool false,.int .i64 0],.agg 85 [.int .i64 1,.int .i64 (-1),.bool true,.bool false,.int .i64 0]]],[],(.agg 65 (by8 [150,43,153,188,10,22,125,174,31,250,120,209,18,105,255,193,73,34,213,37,202,22,214,2,72,242,199,202,168,105,70,3]),[])⟩::T2
theorem ALU:∀e∈T3,e.ok:=List.forall_mem_cons.2 ⟨(A7 (Bj ALT Bh) 400).1 _ _ _ _ (by kernel_rfl),ALT⟩
def T4:List Ent:=⟨28,[.ref 3 [] 103],[.agg 23 [.int .i64 2,.lst 96 .sh [.agg 95 [.int .i64 0,.int .i64 1,.int .i64 5]]],.agg 23 [.int .i64 2,.lst 96 .sh [.agg 95 [.int .i64 0,.int .i64 1,.int .i64 5]]],.agg 25 [.str [115,115,115,112],.int .i64 0,.int .i64 3],.agg 102 [.agg 23 [.int .i64 2,.lst 96 .sh [.agg 95 [.int .i64 0,.int .i64 1,.int .i64 5]]],.agg 25 [.str [115,115,115,112],.int .i64 0,.int .i64 3],.int .i64 1,.int .i64 0,.int .i64 0,.lst 86 .nil [],.lst 86 .own [.agg 85 [.int .i64 0,.int .i64 0,.bool true,.bool false,.int .i64 0],.agg 85 [.int .i64 1,.int .i64 (-1),.bool true,.bool false,.int .i64 0]],.bool false]],(.agg 65 (by8 [150,43,153,188,10,22,125,174,31,250,120,209,18,105,255,193,73,34,213,37,202,22,214,2,72,242,199,202,168,105,70,3]),[.agg 23 [.int .i64 2,.lst 96 .sh [.agg 95 [.int .i64 0,.int .i64 1,.int .i64 5]]],.agg 23 [.int .i64 2,.lst 96 .sh [.agg 95 [.int .i64 0,.int .i64 1,.int .i64 5]]],.agg 25 [.str [115,115,115,112],.int .i64 0,.int .i64 3],.agg 102 [.agg 23 [.int .i64 2,.lst 96 .sh [.agg 95 [.int .i64 0,.int .i64 1,.int .i64 5]]],.agg 25 [.str [115,115,115,112],.int .i64 0,.int .i64 3],.int .i64 1,.int .i64 0,.int .i64 0,.lst 86 .nil [],.lst 86 .own [.agg 85 [.int .i64 0,.int .i64 0,.bool true,.bool false,.int .i64 0],.agg 85 [.int .i64 1,.int .i64 (-1),.bool true,.bool false,.int .i64 0]],.bool false]])⟩::T3
theorem ALV:∀e∈T4,e.ok:=List.forall_mem_cons.2 ⟨(A7 (Bj ALU Bh) 400).1 _ _ _ _ (by kernel_rfl),ALU⟩
def T5:List Ent:=⟨55,[.str [115,115,115,112],.lst 152 .sh [],.int .i64 0],[],(.tup [.int .i64 0,.bool false,.int .i64 0],[])⟩::T4
theorem ALW:∀e∈T5,e.ok:=List.forall_mem_cons.2 ⟨(A7 (Bj ALV Bh) 400).1 _ _ _ _ (by kernel_rfl),ALV⟩
def T6:List Ent:=⟨55,[.str [115,115,115,112],.lst 152 .sh [],.int .i64 1],[],(.tup [.int .i64 0,.bool false,.int .i64 0],[])⟩::T5
theorem ALX:∀e∈T6,e.ok:=List.forall_mem_cons.2 ⟨(A7 (Bj ALW Bh) 400).1 _ _ _ _ (by kernel_rfl),ALW⟩
def T7:List Ent:=⟨53,[.lst 86 .sh [.agg 85 [.int .i64 0,.int .i64 0,.bool true,.bool false,.int .i64 0],.agg 85 [.int .i64 1,.int .i64 (-1),.bool true,.bool false,.int .i64 0]],.clo 54 [.ref 5 [] 29,.ref 7 [] 39,.ref 9 [] 35]],[.agg 23 [.int .i64 2,.lst 96 .sh [.agg 95 [.int .i64 0,.int .i64 1,.int .i64 5]]],.agg 23 [.int .i64 2,.lst 96 .sh [.agg 95 [.int .i64 0,.int .i64 1,.int .i64 5]]],.agg 25 [.str [115,115,115,112],.int .i64 0,.int .i64 3],.agg 102 [.agg 23 [.int .i64 2,.lst 96 .sh [.agg 95 [.int .i64 0,.int .i64 1,.int .i64 5]]],.agg 25 [.str [115,115,115,112],.int .i64 0,.int .i64 3],.int .i64 1,.int .i64 0,.int .i64 0,.lst 86 .nil [],.lst 86 .own [.agg 85 [.int .i64 0,.int .i64 0,.bool true,.bool false,.int .i64 0],.agg 85 [.int .i64 1,.int .i64 (-1),.bool true,.bool false,.int .i64 0]],.bool false],.agg 65 (by8 [150,43,153,188,10,22,125,174,31,250,120,209,18,105,255,193,73,34,213,37,202,22,214,2,72,242,199,202,168,105,70,3]),.ref 3 [] 103,.int .i64 0,.lst 152 .sh [],.agg 43 [.int .i64 0,.str [],.lst 9 .nil []],.lst 86 .nil [],.lst 86 .nil [],.lst 152 .nil []],(.int .i64 0,[.agg 23 [.int .i64 2,.lst 96 .sh [.agg 95 [.int .i64 0,.int .i64 1,.int .i64 5]]],.agg 23 [.int .i64 2,.lst 96 .sh [.agg 95 [.int .i64 0,.int .i64 1,.int .i64 5]]],.agg 25 [.str [115,115,115,112],.int .i64 0,.int .i64 3],.agg 102 [.agg 23 [.int .i64 2,.lst 96 .sh [.agg 95 [.int .i64 0,.int .i64 1,.int .i64 5]]],.agg 25 [.str [115,115,115,112],.int .i64 0,.int .i64 3],.int .i64 1,.int .i64 0,.int .i64 0,.lst 86 .nil [],.lst 86 .own [.agg 85 [.int .i64 0,.int .i64 0,.bool true,.bool false,.int .i64 0],.agg 85 [.int .i64 1,.int .i64 (-1),.bool true,.bool false,.int .i64 0]],.bool false],.agg 65 (by8 [150,43,153,188,10,22,125,174,31,250,120,209,18,105,255,193,73,34,213,37,202,22,214,2,72,242,199,202,168,105,70,3]),.ref 3 [] 103,.int .i64 0,.lst 152 .sh [],.agg 43 [.int .i64 0,.str [],.lst 9 .nil []],.lst 86 .own [.agg 85 [.int .i64 0,.int .i64 0,.bool true,.bool false,.int .i64 0],.agg 85 [.int .i64 1,.int .i64 (-1),.bool true,.bool false,.int .i64 0]],.lst 86 .nil [],.lst 152 .nil []])⟩::T6
theorem ALY:∀e∈T7,e.ok:=List.forall_mem_cons.2 ⟨(A7 (Bj ALX Bh) 400).1 _ _ _ _ (by kernel_rfl),ALX⟩
def T8:List Ent:=⟨57,[.agg 23 [.int .i64 2,.lst 96 .sh [.agg 95 [.int .i64 0,.int .i64 1,.int .i64 5]]],.agg 25 [.str [115,115,115,112],.int .i64 0,.int .i64 3],.int .i64 0,.agg 85 [.int .i64 0,.int .i64 0,.bool true,.bool false,.int .i64 0]],[],(.tup [.agg 85 [.int .i64 0,.int .i64 0,.bool false,.bool false,.int .i64 0],.lst 152 .sh [.agg 151 [.int .i64 0,.int .i64 1,.int .i64 5]],.int .i64 0],[])⟩::T7
theorem ALZ:∀e∈T8,e.ok:=List.forall_mem_cons.2 ⟨(A7 (Bj ALY Bh) 400).1 _ _ _ _ (by kernel_rfl),ALY⟩
def T9:List Ent:=⟨57,[.agg 23 [.int .i64 2,.lst 96 .sh [.agg 95 [.int .i64 0,.int .i64 1,.int .i64 5]]],.agg 25 [.str [115,115,115,112],.int .i64 0,.int .i64 3],.int .i64 0,.agg 85 [.int .i64 1,.int .i64 (-1),.bool true,.bool false,.int .i64 0]],[],(.tup [.agg 85 [.int .i64 1,.int .i64 (-1),.bool false,.bool false,.int .i64 0],.lst 152 .sh [],.int .i64 0],[])⟩::T8
theorem ALa:∀e∈T9,e.ok:=List.forall_mem_cons.2 ⟨(A7 (Bj ALZ Bh) 400).1 _ _ _ _ (by kernel_rfl),ALZ⟩
def T10:List Ent:=⟨53,[.lst 86 .sh [.agg 85 [.int .i64 0,.int .i64 0,.bool true,.bool false,.int .i64 0],.agg 85 [.int .i64 1,.int .i64 (-1),.bool true,.bool false,.int .i64 0]],.clo 56 [.ref 5 [] 29,.ref 6 [] 3,.ref 10 [] 35,.ref 11 [] 39]],[.agg 23 [.int .i64 2,.lst 96 .sh [.agg 95 [.int .i64 0,.int .i64 1,.int .i64 5]]],.agg 23 [.int .i64 2,.lst 96 .sh [.agg 95 [.int .i64 0,.int .i64 1,.int .i64 5]]],.agg 25 [.str [115,115,115,112],.int .i64 0,.int .i64 3],.agg 102 [.agg 23 [.int .i64 2,.lst 96 .sh [.agg 95 [.int .i64 0,.int .i64 1,.int .i64 5]]],.agg 25 [.str [115,115,115,112],.int .i64 0,.int .i64 3],.int .i64 1,.int .i64 0,.int .i64 0,.lst 86 .nil [],.lst 86 .own [.agg 85 [.int .i64 0,.int .i64 0,.bool true,.bool false,.int .i64 0],.agg 85 [.int .i64 1,.int .i64 (-1),.bool true,.bool false,.int .i64 0]],.bool false],.agg 65 (by8 [150,43,153,188,10,22,125,174,31,250,120,209,18,105,255,193,73,34,213,37,202,22,214,2,72,242,199,202,168,105,70,3]),.ref 3 [] 103,.int .i64 0,.lst 152 .sh [],.agg 43 [.int .i64 0,.str [],.lst 9 .nil []],.lst 86 .own [.agg 85 [.int .i64 0,.int .i64 0,.bool true,.bool false,.int .i64 0],.agg 85 [.int .i64 1,.int .i64 (-1),.bool true,.bool false,.int .i64 0]],.lst 86 .nil [],.lst 152 .nil []],(.int .i64 0,[.agg 23 [.int .i64 2,.lst 96 .sh [.agg 95 [.int .i64 0,.int .i64 1,.int .i64 5]]],.agg 23 [.int .i64 2,.lst 96 .sh [.agg 95 [.int .i64 0,.int .i64 1,.int .i64 5]]],.agg 25 [.str [115,115,115,112],.int .i64 0,.int .i64 3],.agg 102 [.agg 23 [.int .i64 2,.lst 96 .sh [.agg 95 [.int .i64 0,.int .i64 1,.int .i64 5]]],.agg 25 [.str [115,115,115,112],.int .i64 0,.int .i64 3],.int .i64 1,.int .i64 0,.int .i64 0,.lst 86 .nil [],.lst 86 .own [.agg 85 [.int .i64 0,.int .i64 0,.bool true,.bool false,.int .i64 0],.agg 85 [.int .i64 1,.int .i64 (-1),.bool true,.bool false,.int .i64 0]],.bool false],.agg 65 (by8 [150,43,153,188,10,22,125,174,31,250,120,209,18,105,255,193,73,34,213,37,202,22,214,2,72,242,199,202,168,105,70,3]),.ref 3 [] 103,.int .i64 0,.lst 152 .sh [],.agg 43 [.int .i64 0,.str [],.lst 9 .nil []],.lst 86 .own [.agg 85 [.int .i64 0,.int .i64 0,.bool true,.bool false,.int .i64 0],.agg 85 [.int .i64 1,.int .i64 (-1),.bool true,.bool false,.int .i64 0]],.lst 86 .own [.agg 85 [.int .i64 0,.int .i64 0,.bool false,.bool false,.int .i64 0],.agg 85 [.int .i64 1,.int .i64 (-1),.bool false,.bool false,.int .i64 0]],.lst 152 .own [.agg 151 [.int .i64 0,.int .i64 1,.int .i64 5]]])⟩::T9
theorem AGP:∀e∈T10,e.ok:=List.forall_mem_cons.2 ⟨(A7 (Bj ALa Bh) 400).1 _ _ _ _ (by kernel_rfl),ALa⟩
def T11:List Ent:=⟨58,[.int .i64 1,.lst 152 .sh [.agg 151 [.int .i64 0,.int .i64 1,.int .i64 5]]],[],(.tup [.lst 39 .sh [.lst 152 .sh [.agg 151 [.int .i64 0,.int .i64 1,.int .i64 5]]],.int .i64 0],[])⟩::T10
theorem AGQ:∀e∈T11,e.ok:=List.forall_mem_cons.2 ⟨(A7 (Bj AGP Bh) 400).1 _ _ _ _ (by kernel_rfl),AGP⟩
def T12:List Ent:=⟨64,[.lst 86 .sh [.agg 85 [.int .i64 0,.int .i64 0,.bool false,.bool false,.int .i64 0],.agg 85 [.int .i64 1,.int .i64 (-1),.bool false,.bool false,.int .i64 0]]],[],(.lst 9 .sh [.str [0,0,0,0,0],.str [1,1,0,0,0]],[])⟩::T11
theorem AGR:∀e∈T12,e.ok:=List.forall_mem_cons.2 ⟨(A7 (Bj AGQ Bh) 400).1 _ _ _ _ (by kernel_rfl),AGQ⟩
def T13:List Ent:=⟨83,[.lst 86 .sh [.agg 85 [.int .i64 0,.int .i64 0,.bool false,.bool false,.int .i64 0],.agg 85 [.int .i64 1,.int .i64 (-1),.bool false,.bool false,.int .i64 0]]],[],(.agg 65 (by8 [122,108,79,21,176,240,237,199,155,2,210,19,58,124,119,200,225,82,232,215,247,145,243,145,125,218,178,100,224,26,96,18]),[])⟩::T12
theorem AGS:∀e∈T13,e.ok:=List.forall_mem_cons.2 ⟨(A7 (Bj AGR Bh) 400).1 _ _ _ _ (by kernel_rfl),AGR⟩
def T14:List Ent:=⟨59,[.int .i64 0,.int .i64 0,.lst 86 .sh [.agg 85 [.int .i64 0,.int .i64 0,.bool false,.bool false,.int .i64 0],.agg 85 [.int .i64 1,.int .i64 (-1),.bool false,.bool false,.int .i64 0]],.lst 39 .sh [.lst 152 .sh [.agg 151 [.int .i64 0,.int .i64 1,.int .i64 5]]]],[],(.tup [.agg 76 [.int .i64 0,.int .i64 0,.agg 65 (by8 [122,108,79,21,176,240,237,199,155,2,210,19,58,124,119,200,225,82,232,215,247,145,243,145,125,218,178,100,224,26,96,18]),.lst 66 .sh [.agg 65 (by8 [42,237,57,191,39,46,253,156,91,120,169,228,39,137,60,170,135,93,169,73,212,32,122,104,196,31,46,52,187,254,72,237])]],.int .i64 0],[])⟩::T13
theorem AGT:∀e∈T14,e.ok:=List.forall_mem_cons.2 ⟨(A7 (Bj AGS Bh) 400).1 _ _ _ _ (by kernel_rfl),AGS⟩
def T15:List Ent:=⟨60,[.agg 76 [.int .i64 0,.int .i64 0,.agg 65 (by8 [122,108,79,21,176,240,237,199,155,2,210,19,58,124,119,200,225,82,232,215,247,145,243,145,125,218,178,100,224,26,96,18]),.lst 66 .sh [.agg 65 (by8 [42,237,57,191,39,46,253,156,91,120,169,228,39,137,60,170,135,93,169,73,212,32,122,104,196,31,46,52,187,254,72,237])]]],[],(.tup [.str [67,0,0,122,108,79,21,176,240,237,199,155,2,210,19,58,124,119,200,225,82,232,215,247,145,243,145,125,218,178,100,224,26,96,18,1,42,237,57,191,39,46,253,156,91,120,169,228,39,137,60,170,135,93,169,73,212,32,122,104,196,31,46,52,187,254,72,237],.int .i64 0],[])⟩::T14
theorem AGU:∀e∈T15,e.ok:=List.forall_mem_cons.2 ⟨(A7 (Bj AGT Bh) 400).1 _ _ _ _ (by kernel_rfl),AGT⟩
def T16:List Ent:=⟨61,[.lst 152 .sh [.agg 151 [.int .i64 0,.int .i64 1,.int .i64 5]]],[],(.tup [.str [1,3,0,1,10],.int .i64 0],[])⟩::T15
theorem AGV:∀e∈T16,e.ok:=List.forall_mem_cons.2 ⟨(A7 (Bj AGU Bh) 400).1 _ _ _ _ (by kernel_rfl),AGU⟩
def T17:List Ent:=⟨17,[.ref 3 [] 103,.int .i64 0,.lst 152 .sh []],[.agg 23 [.int .i64 2,.lst 96 .sh [.agg 95 [.int .i64 0,.int .i64 1,.int .i64 5]]],.agg 23 [.int .i64 2,.lst 96 .sh [.agg 95 [.int .i64 0,.int .i64 1,.int .i64 5]]],.agg 25 [.str [115,115,115,112],.int .i64 0,.int .i64 3],.agg 102 [.agg 23 [.int .i64 2,.lst 96 .sh [.agg 95 [.int .i64 0,.int .i64 1,.int .i64 5]]],.agg 25 [.str [115,115,115,112],.int .i64 0,.int .i64 3],.int .i64 1,.int .i64 0,.int .i64 0,.lst 86 .nil [],.lst 86 .own [.agg 85 [.int .i64 0,.int .i64 0,.bool true,.bool false,.int .i64 0],.agg 85 [.int .i64 1,.int .i64 (-1),.bool true,.bool false,.int .i64 0]],.bool false],.agg 65 (by8 [150,43,153,188,10,22,125,174,31,250,120,209,18,105,255,193,73,34,213,37,202,22,214,2,72,242,199,202,168,105,70,3])],(.agg 43 [.int .i64 0,.str [67,0,0,122,108,79,21,176,240,237,199,155,2,210,19,58,124,119,200,225,82,232,215,247,145,243,145,125,218,178,100,224,26,96,18,1,42,237,57,191,39,46,253,156,91,120,169,228,39,137,60,170,135,93,169,73,212,32,122,104,196,31,46,52,187,254,72,237],.lst 9 .sh [.str [1,3,0,1,10]]],[.agg 23 [.int .i64 2,.lst 96 .sh [.agg 95 [.int .i64 0,.int .i64 1,.int .i64 5]]],.agg 23 [.int .i64 2,.lst 96 .sh [.agg 95 [.int .i64 0,.int .i64 1,.int .i64 5]]],.agg 25 [.str [115,115,115,112],.int .i64 0,.int .i64 3],.agg 102 [.agg 23 [.int .i64 2,.lst 96 .sh [.agg 95 [.int .i64 0,.int .i64 1,.int .i64 5]]],.agg 25 [.str [115,115,115,112],.int .i64 0,.int .i64 3],.int .i64 1,.int .i64 0,.int .i64 1,.lst 86 .sh [.agg 85 [.int .i64 0,.int .i64 0,.bool true,.bool false,.int .i64 0],.agg 85 [.int .i64 1,.int .i64 (-1),.bool true,.bool false,.int .i64 0]],.lst 86 .sh [.agg 85 [.int .i64 0,.int .i64 0,.bool false,.bool false,.int .i64 0],.agg 85 [.int .i64 1,.int .i64 (-1),.bool false,.bool false,.int .i64 0]],.bool true],.agg 65 (by8 [150,43,153,188,10,22,125,174,31,250,120,209,18,105,255,193,73,34,213,37,202,22,214,2,72,242,199,202,168,105,70,3])])⟩::T16
theorem AGW:∀e∈T17,e.ok:=List.forall_mem_cons.2 ⟨(A7 (Bj AGV Bh) 400).1 _ _ _ _ (by kernel_rfl),AGV⟩
def T18:List Ent:=⟨33,[.str [1,3,0,1,10]],[],(.tup [.lst 152 .sh [.agg 151 [.int .i64 0,.int .i64 1,.int .i64 5]],.int .i64 0],[])⟩::T17
theorem AGX:∀e∈T18,e.ok:=List.forall_mem_cons.2 ⟨(A7 (Bj AGW Bh) 400).1 _ _ _ _ (by kernel_rfl),AGW⟩
def T19:List Ent:=⟨63,[.lst 9 .sh [.str [0,0,1,0,0],.str [1,1,1,0,0]],.int .i64 1],[],(.tup [.lst 66 .sh [.agg 65 (by8 [16,72,125,134,206,53,132,225,86,135,78,217,178,101,14,141,119,42,141,31,219,177,201,17,27,247,226,251,202,177,140,203])],.int .i64 0],[])⟩::T18
theorem AGY:∀e∈T19,e.ok:=List.forall_mem_cons.2 ⟨(A7 (Bj AGX Bh) 400).1 _ _ _ _ (by kernel_rfl),AGX⟩
def T20:List Ent:=⟨63,[.lst 9 .sh [.str [0,0,0,0,0],.str [1,1,0,0,0]],.int .i64 1],[],(.tup [.lst 66 .sh [.agg 65 (by8 [176,246,106,220,131,100,21,134,101,104,102,129,63,217,221,11,142,187,99,121,96,117,102,27,164,93,26,168,8,158,29,68])],.int .i64 0],[])⟩::T19
theorem AGZ:∀e∈T20,e.ok:=List.forall_mem_cons.2 ⟨(A7 (Bj AGY Bh) 400).1 _ _ _ _ (by kernel_rfl),AGY⟩
def T21:List Ent:=⟨18,[.ref 3 [] 103,.int .i64 1],[.agg 23 [.int .i64 2,.lst 96 .sh [.agg 95 [.int .i64 0,.int .i64 1,.int .i64 5]]],.agg 23 [.int .i64 2,.lst 96 .sh [.agg 95 [.int .i64 0,.int .i64 1,.int .i64 5]]],.agg 25 [.str [115,115,115,112],.int .i64 0,.int .i64 3],.agg 102 [.agg 23 [.int .i64 2,.lst 96 .sh [.agg 95 [.int .i64 0,.int .i64 1,.int .i64 5]]],.agg 25 [.str [115,115,115,112],.int .i64 0,.int .i64 3],.int .i64 1,.int .i64 0,.int .i64 1,.lst 86 .sh [.agg 85 [.int .i64 0,.int .i64 0,.bool true,.bool false,.int .i64 0],.agg 85 [.int .i64 1,.int .i64 (-1),.bool true,.bool false,.int .i64 0]],.lst 86 .sh [.agg 85 [.int .i64 0,.int .i64 0,.bool false,.bool false,.int .i64 0],.agg 85 [.int .i64 1,.int .i64 (-1),.bool false,.bool false,.int .i64 0]],.bool true],.agg 65 (by8 [150,43,153,188,10,22,125,174,31,250,120,209,18,105,255,193,73,34,213,37,202,22,214,2,72,242,199,202,168,105,70,3]),.agg 43 [.int .i64 0,.str [67,0,0,122,108,79,21,176,240,237,199,155,2,210,19,58,124,119,200,225,82,232,215,247,145,243,145,125,218,178,100,224,26,96,18,1,42,237,57,191,39,46,253,156,91,120,169,228,39,137,60,170,135,93,169,73,212,32,122,104,196,31,46,52,187,254,72,237],.lst 9 .sh [.str [1,3,0,1,10]]]],(.tup [.agg 50 [.int .i64 1,.str [1,1,1,0,0],.str [1,1,0,0,0],.lst 66 .sh [.agg 65 (by8 [16,72,125,134,206,53,132,225,86,135,78,217,178,101,14,141,119,42,141,31,219,177,201,17,27,247,226,251,202,177,140,203])],.lst 66 .sh [.agg 65 (by8 [176,246,106,220,131,100,21,134,101,104,102,129,63,217,221,11,142,187,99,121,96,117,102,27,164,93,26,168,8,158,29,68])]],.int .i64 0],[.agg 23 [.int .i64 2,.lst 96 .sh [.agg 95 [.int .i64 0,.int .i64 1,.int .i64 5]]],.agg 23 [.int .i64 2,.lst 96 .sh [.agg 95 [.int .i64 0,.int .i64 1,.int .i64 5]]],.agg 25 [.str [115,115,115,112],.int .i64 0,.int .i64 3],.agg 102 [.agg 23 [.int .i64 2,.lst 96 .sh [.agg 95 [.int .i64 0,.int .i64 1,.int .i64 5]]],.agg 25 [.str [115,115,115,112],.int .i64 0,.int .i64 3],.int .i64 1,.int .i64 0,.int .i64 1,.lst 86 .sh [.agg 85 [.int .i64 0,.int .i64 0,.bool true,.bool false,.int .i64 0],.agg 85 [.int .i64 1,.int .i64 (-1),.bool true,.bool false,.int .i64 0]],.lst 86 .sh [.agg 85 [.int .i64 0,.int .i64 0,.bool false,.bool false,.int .i64 0],.agg 85 [.int .i64 1,.int .i64 (-1),.bool false,.bool false,.int .i64 0]],.bool true],.agg 65 (by8 [150,43,153,188,10,22,125,174,31,250,120,209,18,105,255,193,73,34,213,37,202,22,214,2,72,242,199,202,168,105,70,3]),.agg 43 [.int .i64 0,.str [67,0,0,122,108,79,21,176,240,237,199,155,2,210,19,58,124,119,200,225,82,232,215,247,145,243,145,125,218,178,100,224,26,96,18,1,42,237,57,191,39,46,253,156,91,120,169,228,39,137,60,170,135,93,169,73,212,32,122,104,196,31,46,52,187,254,72,237],.lst 9 .sh [.str [1,3,0,1,10]]]])⟩::T20
theorem AGa:∀e∈T21,e.ok:=List.forall_mem_cons.2 ⟨(A7 (Bj AGZ Bh) 400).1 _ _ _ _ (by kernel_rfl),AGZ⟩
def T22:List Ent:=⟨35,[.agg 65 (by8 [150,43,153,188,10,22,125,174,31,250,120,209,18,105,255,193,73,34,213,37,202,22,214,2,72,242,199,202,168,105,70,3]),.int .i64 2,.int .i64 1,.str [1,1,1,0,0],.lst 66 .sh [.agg 65 (by8 [16,72,125,134,206,53,132,225,86,135,78,217,178,101,14,141,119,42,141,31,219,177,201,17,27,247,226,251,202,177,140,203])]],[],(.bool true,[])⟩::T21
theorem AGb:∀e∈T22,e.ok:=List.forall_mem_cons.2 ⟨(A7 (Bj AGa Bh) 400).1 _ _ _ _ (by kernel_rfl),AGa⟩
def T23:List Ent:=⟨28,[.ref 3 [] 103],[.agg 23 [.int .i64 2,.lst 96 .sh [.agg 95 [.int .i64 0,.int .i64 1,.int .i64 5]]],.agg 23 [.int .i64 2,.lst 96 .sh [.agg 95 [.int .i64 0,.int .i64 1,.int .i64 5]]],.agg 25 [.str [115,115,115,112],.int .i64 0,.int .i64 3],.agg 102 [.agg 23 [.int .i64 2,.lst 96 .sh [.agg 95 [.int .i64 0,.int .i64 1,.int .i64 5]]],.agg 25 [.str [115,115,115,112],.int .i64 0,.int .i64 3],.int .i64 1,.int .i64 0,.int .i64 1,.lst 86 .sh [.agg 85 [.int .i64 0,.int .i64 0,.bool true,.bool false,.int .i64 0],.agg 85 [.int .i64 1,.int .i64 (-1),.bool true,.bool false,.int .i64 0]],.lst 86 .sh [.agg 85 [.int .i64 0,.int .i64 0,.bool false,.bool false,.int .i64 0],.agg 85 [.int .i64 1,.int .i64 (-1),.bool false,.bool false,.int .i64 0]],.bool true],.agg 65 (by8 [150,43,153,188,10,22,125,174,31,250,120,209,18,105,255,193,73,34,213,37,202,22,214,2,72,242,199,202,168,105,70,3]),.agg 43 [.int .i64 0,.str [67,0,0,122,108,79,21,176,240,237,199,155,2,210,19,58,124,119,200,225,82,232,215,247,145,243,145,125,218,178,100,224,26,96,18,1,42,237,57,191,39,46,253,156,91,120,169,228,39,137,60,170,135,93,169,73,212,32,122,104,196,31,46,52,187,254,72,237],.lst 9 .sh [.str [1,3,0,1,10]]],.row 0 []],(.agg 65 (by8 [122,108,79,21,176,240,237,199,155,2,210,19,58,124,119,200,225,82,232,215,247,145,243,145,125,218,178,100,224,26,96,18]),[.agg 23 [.int .i64 2,.lst 96 .sh [.agg 95 [.int .i64 0,.int .i64 1,.int .i64 5]]],.agg 23 [.int .i64 2,.lst 96 .sh [.agg 95 [.int .i64 0,.int .i64 1,.int .i64 5]]],.agg 25 [.str [115,115,115,112],.int .i64 0,.int .i64 3],.agg 102 [.agg 23 [.int .i64 2,.lst 96 .sh [.agg 95 [.int .i64 0,.int .i64 1,.int .i64 5]]],.agg 25 [.str [115,115,115,112],.int .i64 0,.int .i64 3],.int .i64 1,.int .i64 0,.int .i64 1,.lst 86 .sh [.agg 85 [.int .i64 0,.int .i64 0,.bool true,.bool false,.int .i64 0],.agg 85 [.int .i64 1,.int .i64 (-1),.bool true,.bool false,.int .i64 0]],.lst 86 .sh [.agg 85 [.int .i64 0,.int .i64 0,.bool false,.bool false,.int .i64 0],.agg 85 [.int .i64 1,.int .i64 (-1),.bool false,.bool false,.int .i64 0]],.bool true],.agg 65 (by8 [150,43,153,188,10,22,125,174,31,250,120,209,18,105,255,193,73,34,213,37,202,22,214,2,72,242,199,202,168,105,70,3]),.agg 43 [.int .i64 0,.str [67,0,0,122,108,79,21,176,240,237,199,155,2,210,19,58,124,119,200,225,82,232,215,247,145,243,145,125,218,178,100,224,26,96,18,1,42,237,57,191,39,46,253,156,91,120,169,228,39,137,60,170,135,93,169,73,212,32,122,104,196,31,46,52,187,254,72,237],.lst 9 .sh [.str [1,3,0,1,10]]],.row 0 []])⟩::T22
theorem AGc:∀e∈T23,e.ok:=List.forall_mem_cons.2 ⟨(A7 (Bj AGb Bh) 400).1 _ _ _ _ (by kernel_rfl),AGb⟩
def T24:List Ent:=⟨35,[.agg 65 (by8 [122,108,79,21,176,240,237,199,155,2,210,19,58,124,119,200,225,82,232,215,247,145,243,145,125,218,178,100,224,26,96,18]),.int .i64 2,.int .i64 1,.str [1,1,0,0,0],.lst 66 .sh [.agg 65 (by8 [176,246,106,220,131,100,21,134,101,104,102,129,63,217,221,11,142,187,99,121,96,117,102,27,164,93,26,168,8,158,29,68])]],[],(.bool true,[])⟩::T23
theorem AGd:∀e∈T24,e.ok:=List.forall_mem_cons.2 ⟨(A7 (Bj AGc Bh) 400).1 _ _ _ _ (by kernel_rfl),AGc⟩
def T25:List Ent:=⟨21,[.ref 3 [] 103],[.agg 23 [.int .i64 2,.lst 96 .sh [.agg 95 [.int .i64 0,.int .i64 1,.int .i64 5]]],.agg 23 [.int .i64 2,.lst 96 .sh [.agg 95 [.int .i64 0,.int .i64 1,.int .i64 5]]],.agg 25 [.str [115,115,115,112],.int .i64 0,.int .i64 3],.agg 102 [.agg 23 [.int .i64 2,.lst 96 .sh [.agg 95 [.int .i64 0,.int .i64 1,.int .i64 5]]],.agg 25 [.str [115,115,115,112],.int .i64 0,.int .i64 3],.int .i64 1,.int .i64 0,.int .i64 1,.lst 86 .sh [.agg 85 [.int .i64 0,.int .i64 0,.bool true,.bool false,.int .i64 0],.agg 85 [.int .i64 1,.int .i64 (-1),.bool true,.bool false,.int .i64 0]],.lst 86 .sh [.agg 85 [.int .i64 0,.int .i64 0,.bool false,.bool false,.int .i64 0],.agg 85 [.int .i64 1,.int .i64 (-1),.bool false,.bool false,.int .i64 0]],.bool true],.agg 65 (by8 [150,43,153,188,10,22,125,174,31,250,120,209,18,105,255,193,73,34,213,37,202,22,214,2,72,242,199,202,168,105,70,3]),.agg 43 [.int .i64 0,.str [67,0,0,122,108,79,21,176,240,237,199,155,2,210,19,58,124,119,200,225,82,232,215,247,145,243,145,125,218,178,100,224,26,96,18,1,42,237,57,191,39,46,253,156,91,120,169,228,39,137,60,170,135,93,169,73,212,32,122,104,196,31,46,52,187,254,72,237],.lst 9 .sh [.str [1,3,0,1,10]]],.agg 50 [.int .i64 1,.str [1,1,1,0,0],.str [1,1,0,0,0],.lst 66 .sh [.agg 65 (by8 [16,72,125,134,206,53,132,225,86,135,78,217,178,101,14,141,119,42,141,31,219,177,201,17,27,247,226,251,202,177,140,203])],.lst 66 .sh [.agg 65 (by8 [176,246,106,220,131,100,21,134,101,104,102,129,63,217,221,11,142,187,99,121,96,117,102,27,164,93,26,168,8,158,29,68])]]],(.str [83,1,2,5,0,0,0,0,0,5,1,1,0,0,0],[.agg 23 [.int .i64 2,.lst 96 .sh [.agg 95 [.int .i64 0,.int .i64 1,.int .i64 5]]],.agg 23 [.int .i64 2,.lst 96 .sh [.agg 95 [.int .i64 0,.int .i64 1,.int .i64 5]]],.agg 25 [.str [115,115,115,112],.int .i64 0,.int .i64 3],.agg 102 [.agg 23 [.int .i64 2,.lst 96 .sh [.agg 95 [.int .i64 0,.int .i64 1,.int .i64 5]]],.agg 25 [.str [115,115,115,112],.int .i64 0,.int .i64 3],.int .i64 1,.int .i64 0,.int .i64 1,.lst 86 .sh [.agg 85 [.int .i64 0,.int .i64 0,.bool true,.bool false,.int .i64 0],.agg 85 [.int .i64 1,.int .i64 (-1),.bool true,.bool false,.int .i64 0]],.lst 86 .sh [.agg 85 [.int .i64 0,.int .i64 0,.bool false,.bool false,.int .i64 0],.agg 85 [.int .i64 1,.int .i64 (-1),.bool false,.bool false,.int .i64 0]],.bool true],.agg 65 (by8 [150,43,153,188,10,22,125,174,31,250,120,209,18,105,255,193,73,34,213,37,202,22,214,2,72,242,199,202,168,105,70,3]),.agg 43 [.int .i64 0,.str [67,0,0,122,108,79,21,176,240,237,199,155,2,210,19,58,124,119,200,225,82,232,215,247,145,243,145,125,218,178,100,224,26,96,18,1,42,237,57,191,39,46,253,156,91,120,169,228,39,137,60,170,135,93,169,73,212,32,122,104,196,31,46,52,187,254,72,237],.lst 9 .sh [.str [1,3,0,1,10]]],.agg 50 [.int .i64 1,.str [1,1,1,0,0],.str [1,1,0,0,0],.lst 66 .sh [.agg 65 (by8 [16,72,125,134,206,53,132,225,86,135,78,217,178,101,14,141,119,42,141,31,219,177,201,17,27,247,226,251,202,177,140,203])],.lst 66 .sh [.agg 65 (by8 [176,246,106,220,131,100,21,134,101,104,102,129,63,217,221,11,142,187,99,121,96,117,102,27,164,93,26,168,8,158,29,68])]]])⟩::T24
theorem AGe:∀e∈T25,e.ok:=List.forall_mem_cons.2 ⟨(A7 (Bj AGd Bh) 400).1 _ _ _ _ (by kernel_rfl),AGd⟩
def T26:List Ent:=⟨24,[.ref 3 [] 103,.str [83,1,2,5,0,0,0,0,0,5,1,1,0,0,0]],[.agg 23 [.int .i64 2,.lst 96 .sh [.agg 95 [.int .i64 0,.int .i64 1,.int .i64 5]]],.agg 23 [.int .i64 2,.lst 96 .sh [.agg 95 [.int .i64 0,.int .i64 1,.int .i64 5]]],.agg 25 [.str [115,115,115,112],.int .i64 0,.int .i64 3],.agg 102 [.agg 23 [.int .i64 2,.lst 96 .sh [.agg 95 [.int .i64 0,.int .i64 1,.int .i64 5]]],.agg 25 [.str [115,115,115,112],.int .i64 0,.int .i64 3],.int .i64 1,.int .i64 0,.int .i64 1,.lst 86 .sh [.agg 85 [.int .i64 0,.int .i64 0,.bool true,.bool false,.int .i64 0],.agg 85 [.int .i64 1,.int .i64 (-1),.bool true,.bool false,.int .i64 0]],.lst 86 .sh [.agg 85 [.int .i64 0,.int .i64 0,.bool false,.bool false,.int .i64 0],.agg 85 [.int .i64 1,.int .i64 (-1),.bool false,.bool false,.int .i64 0]],.bool true],.agg 65 (by8 [150,43,153,188,10,22,125,174,31,250,120,209,18,105,255,193,73,34,213,37,202,22,214,2,72,242,199,202,168,105,70,3]),.agg 43 [.int .i64 0,.str [67,0,0,122,108,79,21,176,240,237,199,155,2,210,19,58,124,119,200,225,82,232,215,247,145,243,145,125,218,178,100,224,26,96,18,1,42,237,57,191,39,46,253,156,91,120,169,228,39,137,60,170,135,93,169,73,212,32,122,104,196,31,46,52,187,254,72,237],.lst 9 .sh [.str [1,3,0,1,10]]],.agg 50 [.int .i64 1,.str [1,1,1,0,0],.str [1,1,0,0,0],.lst 66 .sh [.agg 65 (by8 [16,72,125,134,206,53,132,225,86,135,78,217,178,101,14,141,119,42,141,31,219,177,201,17,27,247,226,251,202,177,140,203])],.lst 66 .sh [.agg 65 (by8 [176,246,106,220,131,100,21,134,101,104,102,129,63,217,221,11,142,187,99,121,96,117,102,27,164,93,26,168,8,158,29,68])]]],(.int .i64 0,[.agg 23 [.int .i64 2,.lst 96 .sh [.agg 95 [.int .i64 0,.int .i64 1,.int .i64 5]]],.agg 23 [.int .i64 2,.lst 96 .sh [.agg 95 [.int .i64 0,.int .i64 1,.int .i64 5]]],.agg 25 [.str [115,115,115,112],.int .i64 0,.int .i64 3],.agg 102 [.agg 23 [.int .i64 2,.lst 96 .sh [.agg 95 [.int .i64 0,.int .i64 1,.int .i64 5]]],.agg 25 [.str [115,115,115,112],.int .i64 0,.int .i64 3],.int .i64 1,.int .i64 0,.int .i64 1,.lst 86 .nil [],.lst 86 .own [.agg 85 [.int .i64 0,.int .i64 0,.bool false,.bool false,.int .i64 0],.agg 85 [.int .i64 1,.int .i64 (-1),.bool false,.bool false,.int .i64 0]],.bool false],.agg 65 (by8 [150,43,153,188,10,22,125,174,31,250,120,209,18,105,255,193,73,34,213,37,202,22,214,2,72,242,199,202,168,105,70,3]),.agg 43 [.int .i64 0,.str [67,0,0,122,108,79,21,176,240,237,199,155,2,210,19,58,124,119,200,225,82,232,215,247,145,243,145,125,218,178,100,224,26,96,18,1,42,237,57,191,39,46,253,156,91,120,169,228,39,137,60,170,135,93,169,73,212,32,122,104,196,31,46,52,187,254,72,237],.lst 9 .sh [.str [1,3,0,1,10]]],.agg 50 [.int .i64 1,.str [1,1,1,0,0],.str [1,1,0,0,0],.lst 66 .sh [.agg 65 (by8 [16,72,125,134,206,53,132,225,86,135,78,217,178,101,14,141,119,42,141,31,219,177,201,17,27,247,226,251,202,177,140,203])],.lst 66 .sh [.agg 65 (by8 [176,246,106,220,131,100,21,134,101,104,102,129,63,217,221,11,142,187,99,121,96,117,102,27,164,93,26,168,8,158,29,68])]]])⟩::T25
theorem ANf:∀e∈T26,e.ok:=List.forall_mem_cons.2 ⟨(A7 (Bj AGe Bh) 400).1 _ _ _ _ (by kernel_rfl),AGe⟩
theorem AKA:Cl 10 [] []=some (.bool true,[]):=(A7 (Bj ANf Bh) 400).1 _ _ _ _ (by kernel_rfl)
end
section
open Go AM
def RQ (g:Grf) (j:Job) (n w:Int):Bool:=Ea g j&&(decide (1≤n)&&(decide (n≤64)&&(decide (0≤w)&&decide (w<n))))
theorem YX {g:Grf} (hl:g.es.length<1000000) (j:Job) (n w:Int):Cl 13 [vG .sh g,vJ j,.int .i64 n,.int .i64 w] []=some (.bool (RQ g j n w),[]):=by
 have hg:=Zr hl j
 rw[RQ,ALv]
 generalize Ea g j=b at*
 repeat' first|rfl|refine Zg (fun _=> ?_) (fun _=> ?_)|refine Zh (fun _=> ?_) (fun _=> ?_)|simp(disch:=first|assumption|omega|(with_reducible rfl)|(simp only[go_sem];done)|(simp only[go_sem];omega)|fail) only[↓reduceIte,↓AO,Nat.reduceAdd,go_sem,hg]
 all_goals simp_all
 all_goals omega
end
section
open Go AM
abbrev ADT (f:Fl) (ins:List (List Msg)):V:= .lst 39 f (ins.map (Bd .sh))
theorem ANg {k:Wkr} (hk:WkOk k) {at_:Int} (ha: -1000≤at_∧at_≤1000) (ms:List Msg):WkOk (doK k at_ ms):=by
 obtain⟨d1,_,_,d4⟩:=Vo hk at_ ms
 exact⟨hk.job,hk.n1,hk.n64,hk.w,⟨by show(-9223372036854775808:Int)≤at_+1;omega,by show at_+1<(9223372036854775808:Int);omega⟩,d4,d1⟩
theorem cpM {l:List Msg} (hl:l.length≤1000000) (h:List V):GK 152 (tyG 151) false h (.lst 152 .own []) (Bd .sh l).weak=some (.lst 152 .own (l.map Aa)):=by
 show GK _ _ _ _ _ (.lst 152 .sh (l.map Aa))=_
 rw[DT (Fj l) (all_map (fun _=>rfl) l) (by simp;omega),List.nil_append]
 rfl
theorem Zu {t:List UInt8} {l m:List Msg} (h:l.Perm m) (v:Int):FD t l v=FD t m v:=by
 unfold FD
 rw[Zq (h.filter _)]
theorem ADU {j:Job} {l m:List Msg} (h:l.Perm m):DI j l=DI j m:=by
 funext x
 simp only[DI,Zu h]
def Om (k:Wkr) (at_:Int) (ms:List Msg):(Int×List UInt8×List (List UInt8))×Wkr:=
 if at_=k.step∧at_<k.j.steps then(if Vm k at_ ms=0 then((0,doC k at_ ms,(G7 k at_ ms).map fun l=>(EY l).1),doK k at_ ms)else((Vm k at_ ms,[],[]),k))else((131,[],[]),k)
theorem AGf (k:Wkr) (at_:Int) {l m:List Msg} (h:l.Perm m):Om k at_ l=Om k at_ m:=by
 have b:JR k at_ l=JR k at_ m:=by unfold JR;rw[ADU h]
 have d:EX k at_ l=EX k at_ m:=by unfold EX;rw[b]
 have e:Vm k at_ l=Vm k at_ m:=by unfold Vm;rw[b,d]
 have o:G7 k at_ l=G7 k at_ m:=by unfold G7;rw[d]
 have c:doC k at_ l=doC k at_ m:=by unfold doC;rw[d,o]
 have q:doK k at_ l=doK k at_ m:=by unfold doK;rw[d]
 unfold Om;rw[e,o,c,q]
theorem ANh {k:Wkr} (hk:WkOk k) {at_:Int} (ha: -1000≤at_∧at_≤1000) (ms:List Msg):WkOk (Om k at_ ms).2∧(Om k at_ ms).1.2.2.length≤1000:=by
 have:=(RP hk at_ ms).2
 unfold Om
 split
 ·split
  ·exact⟨ANg hk ha ms,by simpa using this⟩
  ·exact⟨hk,by simp⟩
 ·exact⟨hk,by simp⟩
abbrev vRV (q:Int×List UInt8×List (List UInt8)):V:=SY q.1 q.2.1 .sh q.2.2
def FOk (f:Fl):Prop:=f= .own∨f= .nil∨f= .sh
section
variable {a0 a1 a2 a3 a4 a5 a6 a7:V} {fp fn:Fl} {k:Wkr} {at_:Int} {ms:List Msg}
theorem doA (hk:WkOk k) (hfn:FOk fn) (hms:ms.length≤1000000) (h3:0≤at_):∃fp' fn':Fl,FOk fn'∧
 Cl 17 [.ref 4 [] 103,.int .i64 at_,Bd .sh ms] [a0,a1,a2,a3,H8 fp fn k,a5,a6,a7]=some (vRV (Om k at_ ms).1,[a0,a1,a2,a3,H8 fp' fn' (Om k at_ ms).2,a5,a6,a7]):=by
 unfold Om
 by_cases h:at_=k.step∧at_<k.j.steps
 ·obtain⟨fd,hfd,d⟩:=AJ5 (a0:=a0) (a1:=a1) (a2:=a2) (a3:=a3) (a5:=a5) (a6:=a6) (a7:=a7) (fp:=fp) (at_:=at_) (ms:=ms) hk hfn hms h.1 h.2 h3
  rw[if_pos h]
  by_cases he:Vm k at_ ms=0
  ·rw[if_pos he]at d⊢
   exact⟨fn.wk,fd,by rcases hfd with rfl|rfl<;>simp[FOk],d⟩
  ·rw[if_neg he]at d⊢
   exact⟨fp,fn,hfn,d⟩
 ·rw[if_neg h]
  exact⟨fp,fn,hfn,AGC .sh (.inl rfl) (by omega)⟩
theorem ASW (hk:WkOk k) (hfn:FOk fn) (hms:ms.length≤1000000) (h3:0≤at_):∃fp' fn':Fl,FOk fn'∧
 Cl 17 [.ref 7 [] 103,.int .i64 at_,Bd .sh ms] [a0,a1,a2,a3,a4,a5,a6,H8 fp fn k]=some (vRV (Om k at_ ms).1,[a0,a1,a2,a3,a4,a5,a6,H8 fp' fn' (Om k at_ ms).2]):=by
 unfold Om
 by_cases h:at_=k.step∧at_<k.j.steps
 ·obtain⟨fd,hfd,d⟩:=AJ9 (a0:=a0) (a1:=a1) (a2:=a2) (a3:=a3) (a4:=a4) (a5:=a5) (a6:=a6) (fp:=fp) (at_:=at_) (ms:=ms) hk hfn hms h.1 h.2 h3
  rw[if_pos h]
  by_cases he:Vm k at_ ms=0
  ·rw[if_pos he]at d⊢
   exact⟨fn.wk,fd,by rcases hfd with rfl|rfl<;>simp[FOk],d⟩
  ·rw[if_neg he]at d⊢
   exact⟨fp,fn,hfn,d⟩
 ·rw[if_neg h]
  exact⟨fp,fn,hfn,AGF .sh (.inl rfl) (by omega)⟩
end
section
variable {g:Grf} {j:Job} {a:Nat} {ins:List (List Msg)}
theorem AGg (ha:a<256) (hI:ins.length≤8):∀(m i:Nat) (fpa fna fpb fnb:Fl) (k:Wkr),i+m=ins.length→WkOk k→FOk fna→FOk fnb→
 AAT (ADT .sh ins) (.int .u8 (a:Int)) (.ref 4 [] 103) (.ref 7 [] 103) (.int .i64 (i:Int)) [vG .sh g,vJ j,vG .sh g,vJ j,H8 fpa fna k,vG .sh g,vJ j,H8 fpb fnb k]=some (.bool true,[]):=by
 intro m
 induction m with
 |zero=>
  intro i fpa fna fpb fnb k hi hk hfa hfb
  have ls:AL .lss (.int .i64 (i:Int)) (.int .i64 (ins.length:Int))=some (.bool false):=by rw[b_lss,decide_eq_false (by omega)]
  have lL:EZ (V.weak (ADT .sh ins))=some (.int .i64 (ins.length:Int)):=by show some _=_;rw[List.length_map]
  rw[WN]
  refine(AA lL _).trans ?_
  refine(AA ls _).trans ?_
  refine(Aj _ _).trans ?_
  rfl
 |succ m ih=>
  intro i fpa fna fpb fnb k hi hk hfa hfb
  have h:i<ins.length:=by omega
  have ls:AL .lss (.int .i64 (i:Int)) (.int .i64 (ins.length:Int))=some (.bool true):=by rw[b_lss,decide_eq_true (by omega)]
  have lL:EZ (V.weak (ADT .sh ins))=some (.int .i64 (ins.length:Int)):=by show some _=_;rw[List.length_map]
  have ix:EQ 39 (V.weak (ADT .sh ins)) (.int .i64 (i:Int))=some (.rop 39 (Bd .sh ins[i])):=by
   show EQ _ (.lst _ .sh _) _=_
   rw[EI,List.getElem?_map,List.getElem?_eq_getElem h];rfl
  have ad:AL .add (.int .i64 (i:Int)) (.int .i64 1)=some (.int .i64 ((i+1:Nat):Int)):=by rw[Cf,wrap_i64 (by omega) (by omega)];rfl
  have ld:∀H,CP H 39 (.rop 39 (Bd .sh ins[i]))=some (Bd .sh ins[i]).weak:=fun H=>by simp only[CP,Eo,Option.map_some]
  have l3:EZ (Bd .sh ins[i]).weak=some (.int .i64 ((ins[i]).length:Int)):=by show some _=_;rw[List.length_map]
  rw[WN]
  refine(AA lL _).trans ?_
  refine(AA ls _).trans ?_
  refine(Af _ _).trans ?_
  refine(AA ix _).trans ?_
  refine(AA (ld _) _).trans ?_
  refine(AA l3 _).trans ?_
  by_cases h20:20<(ins[i]).length
  ·have g3:AL .gtr (.int .i64 ((ins[i]).length:Int)) (.int .i64 20)=some (.bool true):=by rw[b_gtr,decide_eq_true (by omega)]
   refine(AA g3 _).trans ?_
   refine(Af _ _).trans ?_
   rfl
  have g3:AL .gtr (.int .i64 ((ins[i]).length:Int)) (.int .i64 20)=some (.bool false):=by rw[b_gtr,decide_eq_false (by omega)]
  refine(AA g3 _).trans ?_
  refine(Aj _ _).trans ?_
  have cp:=cpM (l:=ins[i]) (by omega)
  have bs:Ny 152 false (ck [] [])=some (.lst 152 .own []):=rfl
  have cv:Un .i64 (.int .u8 (a:Int))=some (.int .i64 (a:Int)):=cvI_i64 (by omega) (by omega)
  have ad1:AL .add (.int .i64 ((ins[i]).length:Int)) (.int .i64 1)=some (.int .i64 (((ins[i]).length+1:Nat):Int)):=by rw[Cf,wrap_i64 (by omega) (by omega)];rfl
  have rm:=AIq (a:=a) (b:=(ins[i]).length+1) (by omega) .i64
  have hq:a%((ins[i]).length+1)≤(ins[i]).length:=by have:=Nat.mod_lt a (show 0<(ins[i]).length+1 by omega);omega
  generalize hqq:a%((ins[i]).length+1)=q at*
  have s1:WL 152 (Bd .sh ins[i]).weak (some (.int .i64 (q:Int))) none none=some (Bd .sh ((ins[i]).drop q)):=by
   show WL _ (.lst _ .sh _) _ _ _=_
   rw[AMW (by rw[List.length_map];exact hq),←List.map_drop];rfl
  have s2:WL 152 (Bd .sh ins[i]).weak none (some (.int .i64 (q:Int))) none=some (Bd .sh ((ins[i]).take q)):=by
   show WL _ (.lst _ .sh _) _ _ _=_
   rw[AMX (by rw[List.length_map];exact hq),←List.map_take];rfl
  have p1:∀H,GK 152 (tyG 151) false H (.lst 152 .own []) (Bd .sh ((ins[i]).drop q))=some (.lst 152 .own (((ins[i]).drop q).map Aa)):=fun H=>cpM (l:=(ins[i]).drop q) (by simp;omega) H
  have p2:∀H,GK 152 (tyG 151) false H (.lst 152 .own (((ins[i]).drop q).map Aa)) (Bd .sh ((ins[i]).take q))=some (.lst 152 .own (((ins[i]).drop q++(ins[i]).take q).map Aa)):=fun H=>by
   rw[Bd,DT (Fj _) (all_map (fun _=>rfl) _) (by simp;omega),List.map_append]
   rfl
  have hp:(ins[i]).Perm ((ins[i]).drop q++(ins[i]).take q):=by
   conv=>lhs;rw[←List.take_append_drop q ins[i]]
   exact List.perm_append_comm
  have hln:((ins[i]).drop q++(ins[i]).take q).length≤1000000:=by simp;omega
  generalize (ins[i]).drop q++(ins[i]).take q=tn at*
  generalize (ins[i]).drop q=dq at*
  generalize (ins[i]).take q=tq at*
  obtain⟨fpa',fna',hfa',da⟩:=doA (a0:=vG .sh g) (a1:=vJ j) (a2:=vG .sh g) (a3:=vJ j) (a5:=vG .sh g) (a6:=vJ j) (a7:=H8 fpb fnb k) (fp:=fpa) (at_:=(i:Int)) (ms:=ins[i]) hk hfa (by omega) (by omega)
  obtain⟨fpb',fnb',hfb',db⟩:=ASW (a0:=vG .sh g) (a1:=vJ j) (a2:=vG .sh g) (a3:=vJ j) (a4:=H8 fpa' fna' (Om k (i:Int) ins[i]).2) (a5:=vG .sh g) (a6:=vJ j) (fp:=fpb) (at_:=(i:Int)) (ms:=tn) hk hfb hln (by omega)
  rw[←AGf k (i:Int) hp]at db
  obtain⟨k1,k2⟩:=ANh hk (at_:=(i:Int)) (by omega) ins[i]
  have nx:=ih (i+1) fpa' fna' fpb' fnb' (Om k (i:Int) ins[i]).2 (by omega) k1 hfa' hfb'
  have sr:=AGI (Om k (i:Int) ins[i]).1.1 (Om k (i:Int) ins[i]).1.2.1 k2
  have ra:=YW (h:=[vG .sh g,vJ j,vG .sh g,vJ j,H8 fpa' fna' (Om k (i:Int) ins[i]).2,vG .sh g,vJ j,H8 fpb' fnb' (Om k (i:Int) ins[i]).2]) (id:=4) rfl hfa' k1.now k1.len
  have rb_:=YW (h:=[vG .sh g,vJ j,vG .sh g,vJ j,H8 fpa' fna' (Om k (i:Int) ins[i]).2,vG .sh g,vJ j,H8 fpb' fnb' (Om k (i:Int) ins[i]).2]) (id:=7) rfl hfb' k1.now k1.len
  have nq:Y8 (tyG 65) .neq (BO (vrootB (Om k (i:Int) ins[i]).2.now)) (BO (vrootB (Om k (i:Int) ins[i]).2.now))=some (.bool false):=by rw[neA (FW _) (FW _)];simp
  have nt:un .not (.bool true)=some (.bool false):=rfl
  clear ih hp
  refine(AA cv _).trans ?_
  refine(AA ix _).trans ?_
  refine(AA (ld _) _).trans ?_
  refine(AA l3 _).trans ?_
  refine(AA ad1 _).trans ?_
  refine(AA rm _).trans ?_
  refine(AA bs _).trans ?_
  refine(AA ix _).trans ?_
  refine(AA (ld _) _).trans ?_
  refine(AA s1 _).trans ?_
  refine(AA (p1 _) _).trans ?_
  refine(AA ix _).trans ?_
  refine(AA (ld _) _).trans ?_
  refine(AA s2 _).trans ?_
  refine(AA (p2 _) _).trans ?_
  refine rjn (R:=fun X=>X=_) ?_
  refine(AA bs _).trans ?_
  refine(AA ix _).trans ?_
  refine(AA (ld _) _).trans ?_
  refine(AA (cp _) _).trans ?_
  refine(AA (show Cl 17 (AV [.ref 4 [] 103,.int .i64 (i:Int),.lst 152 .own ((ins[i]).map Aa)]) _=_ from da) _).trans ?_
  refine(AA (show Cl 17 (AV [.ref 7 [] 103,.int .i64 (i:Int),.lst 152 .own (tn.map Aa)]) _=_ from db) _).trans ?_
  refine(AA (show Cl 16 (AB _ [vRV (Om k (i:Int) ins[i]).1,vRV (Om k (i:Int) ins[i]).1]) []=_ from sr) _).trans ?_
  refine(AA nt _).trans ?_
  refine(Aj _ _).trans ?_
  refine(AA (show Cl 28 (AV [.ref 4 [] 103]) _=_ from ra) _).trans ?_
  refine(AA (show Cl 28 (AV [.ref 7 [] 103]) _=_ from rb_) _).trans ?_
  refine(AA nq _).trans ?_
  refine(Aj _ _).trans ?_
  exact(AA ad _).trans nx
end
def wk0 (g:Grf) (j:Job) (N w:Nat):Wkr:=⟨g,j,N,w,0,[],Vk g j N w,false⟩
theorem ANi {g:Grf} {j:Job} (hj:Ea g j=true) {N w:Nat} (h1:1≤N) (hN:N≤64) (hw:w<N):WkOk (wk0 g j N w):=by
 have hg':=Vl hj
 have:=AF7 g j N w
 exact⟨hj,h1,hN,hw,by simp[wk0,I64],AJ1 hg'.2 j N w,by show(Vk g j N w).length≤64;omega⟩
set_option maxHeartbeats 1000000 in
theorem RS (g:Grf) (j:Job) (n w:Int) (ins:List (List Msg)) {a:Nat} (ha8:a<256):Cl 5 [vG .sh g,vJ j,.int .i64 n,.int .i64 w,ADT .sh ins,.int .u8 (a:Int)] []=some (.bool true,[]):=by
 have hA:=AKA
 have nt:un .not (.bool true)=some (.bool false):=rfl
 have nf:un .not (.bool false)=some (.bool true):=rfl
 have pg:(vG .sh g).pl=true:=by simp only[go_sem]
 have wkG:(vG .sh g).weak=vG .sh g:=(V.PF _ pg).weak
 have t0:((AM.tyG 23) (vG .sh g)&&V.under 0 (vG .sh g))=true:=by rw[(V.PF _ pg).under];rfl
 have lE:EZ (.lst 96 .sh (g.es.map D6))=some (.int .i64 (g.es.length:Int)):=by show some _=_;rw[List.length_map]
 have lI:EZ (V.weak (ADT .sh ins))=some (.int .i64 (ins.length:Int)):=by show some _=_;rw[List.length_map]
 have kA:∀K:V→Rv,(∀b:Bool,b=true→K (.bool b)=some (.bool true,[]))→True:=fun _ _=>trivial
 have skip:∀H:List V,(Cl 10 (AB H []) []).bind (fun r=>AP 0 H r.1)=some (.bool true,[]):=fun H=>AA (show Cl 10 (AB H []) []=_ from hA) _
 rw[AOl,wkG]
 refine BR (R:=fun X=>X=_) t0 ?_
 refine BR (R:=fun X=>X=_) rfl ?_
 refine rjn (R:=fun X=>X=_) ?_
 refine rb (R:=fun X=>X=_) (show Cl 10 (AB _ []) []=_ from hA) ?_
 refine(AA nt _).trans ?_
 refine(Aj _ _).trans ?_
 iterate 2 refine rb (R:=fun X=>X=_) rfl ?_
 refine(AA lE _).trans ?_
 by_cases h1:40<g.es.length
 ·have g1:AL .gtr (.int .i64 (g.es.length:Int)) (.int .i64 40)=some (.bool true):=by rw[b_gtr,decide_eq_true (by omega)]
  refine(AA g1 _).trans ?_
  refine(Af _ _).trans ?_
  refine(Af _ _).trans ?_
  exact skip _
 have g1:AL .gtr (.int .i64 (g.es.length:Int)) (.int .i64 40)=some (.bool false):=by rw[b_gtr,decide_eq_false (by omega)]
 refine(AA g1 _).trans ?_
 refine(Aj _ _).trans ?_
 iterate 2 refine rb (R:=fun X=>X=_) rfl ?_
 by_cases h2:12<g.n
 ·have g2:AL .gtr (.int .i64 g.n) (.int .i64 12)=some (.bool true):=by rw[b_gtr,decide_eq_true (by omega)]
  refine(AA g2 _).trans ?_
  refine(Af _ _).trans ?_
  refine(Af _ _).trans ?_
  exact skip _
 have g2:AL .gtr (.int .i64 g.n) (.int .i64 12)=some (.bool false):=by rw[b_gtr,decide_eq_false (by omega)]
 refine(AA g2 _).trans ?_
 refine(Aj _ _).trans ?_
 refine(AA lI _).trans ?_
 by_cases h3:8<ins.length
 ·have g3:AL .gtr (.int .i64 (ins.length:Int)) (.int .i64 8)=some (.bool true):=by rw[b_gtr,decide_eq_true (by omega)]
  refine(AA g3 _).trans ?_
  refine(Af _ _).trans ?_
  refine(Af _ _).trans ?_
  exact skip _
 have g3:AL .gtr (.int .i64 (ins.length:Int)) (.int .i64 8)=some (.bool false):=by rw[b_gtr,decide_eq_false (by omega)]
 refine(AA g3 _).trans ?_
 refine(Aj _ _).trans ?_
 iterate 2 refine rb (R:=fun X=>X=_) rfl ?_
 have hl:g.es.length<1000000:=by omega
 have rt:=YX hl j n w
 have rtH:∀H,Cl 13 (AB H [(vG .sh g).weak,vJ j,.int .i64 n,.int .i64 w]) []=some (.bool (RQ g j n w),[]):=fun H=>by
  rw[wkG,AB,(V.PF _ pg).reify];exact rt
 refine(AA (rtH _) _).trans ?_
 cases hr:RQ g j n w with
 |false=>
  refine(AA nf _).trans ?_
  refine(Af _ _).trans ?_
  exact skip _
 |true=>
 refine(AA nt _).trans ?_
 refine(Aj _ _).trans ?_
 simp only[RQ,Bool.and_eq_true,decide_eq_true_eq]at hr
 obtain⟨hj,n1,n2,w0,wn⟩:=hr
 obtain⟨N,rfl⟩:=Int.eq_ofNat_of_zero_le (show 0≤n by omega)
 obtain⟨u,rfl⟩:=Int.eq_ofNat_of_zero_le w0
 have ow:=AF8 hl
 have owH:∀H,Cl 12 (AB H [(vG .sh g).weak]) []=some (vG .sh g,[]):=fun H=>by
  rw[wkG,AB,(V.PF _ pg).reify];exact ow
 have ha:BP 4 [vG .sh g,vJ j]=true:=by simp only[BP,(V.PF _ pg).away];rfl
 obtain⟨f',hf',nw⟩:=AGK (a:=vG .sh g) (b:=vJ j) hl hj (N:=N) (w:=u) (by omega) (by omega) (by omega) ha
 have nwH:Cl 11 (AV [vG .sh g,vJ j,.int .i64 (N:Int),.int .i64 (u:Int)]) [vG .sh g,vJ j]=some (.tup [.ref 4 [] 103,.int .i64 0],[vG .sh g,vJ j,vG .sh g,vJ j,H8 .nil f' (wk0 g j N u)]):=by
  rw[AV,(V.PF _ pg).norm];exact nw
 have pa:BP 7 [vG .sh g,vJ j,vG .sh g,vJ j,H8 .nil f' (wk0 g j N u)]=true:=by
  have pk:(H8 .nil f' (wk0 g j N u)).away 7=true:=by
   simp only[V.away,BP,(V.PF _ pg).away,Bool.true_and,Bool.and_true]
   rcases hf' with rfl|rfl<;>simp[V.away,BP]
  simp only[BP,(V.PF _ pg).away,pk];rfl
 obtain⟨f2,hf2,nw2⟩:=AGM (a:=vG .sh g) (b:=vJ j) (c:=vG .sh g) (d:=vJ j) (e:=H8 .nil f' (wk0 g j N u)) hl hj (N:=N) (w:=u) (by omega) (by omega) (by omega) pa
 have nwH2:Cl 11 (AV [vG .sh g,vJ j,.int .i64 (N:Int),.int .i64 (u:Int)]) [vG .sh g,vJ j,vG .sh g,vJ j,H8 .nil f' (wk0 g j N u)]=some (.tup [.ref 7 [] 103,.int .i64 0],[vG .sh g,vJ j,vG .sh g,vJ j,H8 .nil f' (wk0 g j N u),vG .sh g,vJ j,H8 .nil f2 (wk0 g j N u)]):=by
  rw[AV,(V.PF _ pg).norm];exact nw2
 have lp:=AGg (g:=g) (j:=j) (a:=a) (ins:=ins) ha8 (by omega) ins.length 0 .nil f' .nil f2 (wk0 g j N u) (by omega) (ANi hj (by omega) (by omega) (by omega)) (by rcases hf' with rfl|rfl<;>simp[FOk]) (by rcases hf2 with rfl|rfl<;>simp[FOk])
 refine rb (R:=fun X=>X=_) (x:=(vG .sh g).weak) rfl ?_
 refine(AA (owH _) _).trans ?_
 refine rb (R:=fun X=>X=_) (x:=vJ j) rfl ?_
 refine(AA nwH _).trans ?_
 refine rb (R:=fun X=>X=_) (x:=V.ref 4 [] 103) rfl ?_
 refine rb (R:=fun X=>X=_) (x:=V.int .i64 0) rfl ?_
 refine rb (R:=fun X=>X=_) (x:=(vG .sh g).weak) rfl ?_
 refine(AA (owH _) _).trans ?_
 refine rb (R:=fun X=>X=_) (x:=vJ j) rfl ?_
 refine(AA nwH2 _).trans ?_
 refine rb (R:=fun X=>X=_) (x:=V.ref 7 [] 103) rfl ?_
 refine rb (R:=fun X=>X=_) (x:=V.int .i64 0) rfl ?_
 refine rjn (R:=fun X=>X=_) ?_
 refine(AA (show AL .neq (.int .i64 0) (.int .i64 0)=some (.bool false)from rfl) _).trans ?_
 refine(Aj _ _).trans ?_
 refine(AA (show AL .neq (.int .i64 0) (.int .i64 0)=some (.bool false)from rfl) _).trans ?_
 refine(Aj _ _).trans ?_
 refine(AA (show ZF .eql (.ref 4 [] 103)=some (.bool false)from rfl) _).trans ?_
 refine(Aj _ _).trans ?_
 refine(AA (show ZF .eql (.ref 7 [] 103)=some (.bool false)from rfl) _).trans ?_
 refine(Aj _ _).trans ?_
 exact lp
end
end Go.Proofs.YtoakaehjnbhgmaaGreatDoor
