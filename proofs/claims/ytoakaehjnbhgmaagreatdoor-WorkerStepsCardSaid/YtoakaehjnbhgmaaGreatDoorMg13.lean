/-
  Part of the proof of a statement about the given program: an abstract machine over its code, the simulation, its functions' equations, what they compute.
-/
import Derived.Test.YtoakaehjnbhgmaaGreatDoorMg10
import Derived.Test.YtoakaehjnbhgmaaGreatDoorMg12
import Derived.Test.YtoakaehjnbhgmaaGreatDoorMg3
import Derived.Test.YtoakaehjnbhgmaaGreatDoorMg5
set_option linter.unusedVariables false
set_option linter.unusedSimpArgs false
set_option linter.unusedSectionVars false
set_option maxRecDepth 100000
noncomputable section
namespace Go.Proofs.YtoakaehjnbhgmaaGreatDoor
section
open Go AM
section
variable {a0 a1 a2 a3 a5:V} {fp fn:Fl} {k:Wkr} {at_:Int} {ms:List Msg}
abbrev Vu (a0 a1 a2 a3 a5:V) (fp fn:Fl) (k:Wkr) (at_:Int) (ms:List Msg) (fb:Fl) (b:List Vtx) (fd:Fl) (d:List Vtx) (fs:Fl) (s:List Msg):List V:=[a0,a1,a2,a3,SK fp fn k,a5,.ref 4 [] 103,.int .i64 at_,Bl .sh ms,Yv 0 [] .nil [],GI fb b,GI fd d,.lst 152 fs (s.map Aa)]
abbrev c16:V:= .clo 54 [.ref 6 [] 29,.ref 8 [] 39,.ref 10 [] 35]
abbrev c26:V:= .clo 56 [.ref 6 [] 29,.ref 7 [] 3,.ref 11 [] 35,.ref 12 [] 39]
theorem ASE (hms:ms.length≤1000000) {fb:Fl} {b:List Vtx} (hb:b.length≤1000) (hf:fb= .own∨fb= .nil∧b=[]) (x:Vtx):
 Cl 54 [Ci x,.ref 6 [] 29,.ref 8 [] 39,.ref 10 [] 35] (Vu a0 a1 a2 a3 a5 fp fn k at_ ms fb b .nil [] .nil []++[Ci x])=some (.int .i64 (DW k.j ms x).2,Vu a0 a1 a2 a3 a5 fp fn k at_ ms .own (b++[(DW k.j ms x).1]) .nil [] .nil []++[Ci x]):=by
 have ca:=ACC k.j.tag hms x.id (fl:= .sh) (.inl rfl)
 have ap:∀(h:List V) (y:Vtx),Gv 86 (tyG tVx) false h (GI fb b) (.lst 86 .own [Ci y])=some (GI .own (b++[y])):=fun h y=>by
  have cl:AU [Ci y]=true:=rfl
  have ty:[Ci y].all (tyG tVx)=true:=rfl
  unfold GI
  rw[List.map_append]
  rcases hf with rfl|⟨rfl,rfl⟩
  ·rw[Dt cl ty (by simp;omega)];rfl
  ·rw[List.map_nil,Dx cl ty (by simp)];rfl
 rw[AED]
 simp only[DW]
 generalize GZ k.j.tag ms x.id=q at*
 refine BP (R:=fun X=>X=_) rfl ?_
 iterate 8 refine rb (R:=fun X=>X=_) rfl ?_
 refine rb (R:=fun X=>X=_) (show Cl 55 _ _=_ from ca) ?_
 iterate 3 refine rb (R:=fun X=>X=_) rfl ?_
 iterate 4 refine rb (R:=fun X=>X=_) rfl ?_
 iterate 3 refine rb (R:=fun X=>X=_) rfl ?_
 refine rb (R:=fun X=>X=_) (ap _ ⟨x.id,x.val,x.act,q.2.1,q.1⟩) ?_
 refine rb (R:=fun X=>X=_) rfl ?_
 rfl
theorem ANF (hms:ms.length≤1000000) {l:List Vtx} (hl:l.length≤64):∀(m i:Nat) (fb:Fl) (b:List Vtx),i+m=l.length→b.length≤i→(fb= .own∨fb= .nil∧b=[])→∃fb':Fl,(fb'= .own∨fb'= .nil)∧
 Jt c16 (GI .sh l) (.int .i64 (l.length:Int)) (.int .i64 (i:Int)) 13 (Vu a0 a1 a2 a3 a5 fp fn k at_ ms fb b .nil [] .nil [])=some (.int .i64 (FM (DW k.j ms) (l.drop i)).2,Vu a0 a1 a2 a3 a5 fp fn k at_ ms fb' (b++(FM (DW k.j ms) (l.drop i)).1) .nil [] .nil []):=by
 intro m
 induction m with
 |zero=>
  intro i fb b hi hb hf
  have ls:AL .lss (.int .i64 (i:Int)) (.int .i64 (l.length:Int))=some (.bool false):=by rw[b_lss,decide_eq_false (by omega)]
  refine⟨fb,by rcases hf with rfl|⟨rfl,_⟩<;>simp,?_⟩
  rw[List.drop_eq_nil_of_le (by omega),Cb]
  simp only[FM,List.append_nil]
  refine(AA ls _).trans ?_
  rfl
 |succ m ih=>
  intro i fb b hi hb hf
  have h:i<l.length:=by omega
  have ls:AL .lss (.int .i64 (i:Int)) (.int .i64 (l.length:Int))=some (.bool true):=by rw[b_lss,decide_eq_true (by omega)]
  have ix:Eg 86 (GI .sh l) (.int .i64 (i:Int))=some (.rop 86 (Ci l[i])):=by
   rw[EQ,List.getElem?_map,List.getElem?_eq_getElem h];rfl
  have ad:AL .add (.int .i64 (i:Int)) (.int .i64 1)=some (.int .i64 ((i+1:Nat):Int)):=by rw[DT,wrap_i64 (by omega) (by omega)];rfl
  have d1:=ASE (a0:=a0) (a1:=a1) (a2:=a2) (a3:=a3) (a5:=a5) (fp:=fp) (fn:=fn) (k:=k) (at_:=at_) hms (fb:=fb) (b:=b) (by omega) hf l[i]
  rw[List.drop_eq_getElem_cons h,FM]
  by_cases hq:(DW k.j ms l[i]).2=0
  ·obtain⟨fb',hf',nx⟩:=ih (i+1) .own (b++[(DW k.j ms l[i]).1]) (by omega) (by simp;omega) (.inl rfl)
   refine⟨fb',hf',?_⟩
   have ne:AL .neq (.int .i64 (DW k.j ms l[i]).2) (.int .i64 0)=some (.bool false):=by rw[b_neq];simp[hq]
   rw[if_pos hq]
   simp only[show b++(DW k.j ms l[i]).1::(FM (DW k.j ms) (l.drop (i+1))).1=b++[(DW k.j ms l[i]).1]++(FM (DW k.j ms) (l.drop (i+1))).1 by simp]
   rw[←nx,Cb]
   clear ih nx hf
   generalize DW k.j ms l[i]=q at*
   generalize l[i]=x at*
   generalize (i+1:Nat)=i2 at*
   generalize (l.length:Int)=ll at*
   generalize l.map Ci=LL at*
   refine(AA ls _).trans ?_
   refine(Ag _ _).trans ?_
   refine(AA ix _).trans ?_
   refine rb (R:=fun X=>X=_) rfl ?_
   refine rb (R:=fun X=>X=_) rfl ?_
   refine rb (R:=fun X=>X=_) rfl ?_
   refine Jh (R:=fun X=>X=_) d1 ?_
   refine BP (R:=fun X=>X=_) rfl ?_
   refine(AA ne _).trans ?_
   refine(Aj _ _).trans ?_
   refine(AA ad _).trans ?_
   refine BP (R:=fun X=>X=_) rfl ?_
   rfl
  ·refine⟨.own,.inl rfl,?_⟩
   have ne:AL .neq (.int .i64 (DW k.j ms l[i]).2) (.int .i64 0)=some (.bool true):=by rw[b_neq];simp[hq]
   rw[if_neg hq,Cb]
   clear ih hf
   generalize DW k.j ms l[i]=q at*
   generalize l[i]=x at*
   generalize (l.length:Int)=ll at*
   generalize l.map Ci=LL at*
   refine(AA ls _).trans ?_
   refine(Ag _ _).trans ?_
   refine(AA ix _).trans ?_
   refine rb (R:=fun X=>X=_) rfl ?_
   refine rb (R:=fun X=>X=_) rfl ?_
   refine rb (R:=fun X=>X=_) rfl ?_
   refine Jh (R:=fun X=>X=_) d1 ?_
   refine BP (R:=fun X=>X=_) rfl ?_
   refine(AA ne _).trans ?_
   refine(Ag _ _).trans ?_
   rfl
theorem AJh (hms:ms.length≤1000000) {l:List Vtx} (hl:l.length≤64):∃fb':Fl,(fb'= .own∨fb'= .nil)∧
 Cl 53 [GI .sh l,c16] (Vu a0 a1 a2 a3 a5 fp fn k at_ ms .nil [] .nil [] .nil [])=some (.int .i64 (FM (DW k.j ms) l).2,Vu a0 a1 a2 a3 a5 fp fn k at_ ms fb' (FM (DW k.j ms) l).1 .nil [] .nil []):=by
 obtain⟨fb',hf',lp⟩:=ANF (a0:=a0) (a1:=a1) (a2:=a2) (a3:=a3) (a5:=a5) (fp:=fp) (fn:=fn) (k:=k) (at_:=at_) hms hl l.length 0 .nil [] (by omega) (Nat.le_refl 0) (.inr ⟨rfl,rfl⟩)
 have lL:E5 (GI .sh l)=some (.int .i64 (l.length:Int)):=by show some _=_;rw[List.length_map]
 refine⟨fb',hf',?_⟩
 rw[List.drop_zero,List.nil_append]at lp
 rw[←lp,Uj]
 exact AA lL _
theorem ASF (hk:WkOk k) {fb:Fl} {b:List Vtx} {fd fs:Fl} {d:List Vtx} {s:List Msg} (hd:d.length≤1000) (hs:s.length≤900000) (hf:fd= .own∨fd= .nil∧d=[]) (hf2:fs= .own∨fs= .nil∧s=[]) {x:Vtx} (hx:JI x):
 Cl 56 [Ci x,.ref 6 [] 29,.ref 7 [] 3,.ref 11 [] 35,.ref 12 [] 39] (Vu a0 a1 a2 a3 a5 fp fn k at_ ms fb b fd d fs s++[Ci x])=some (.int .i64 (Ae k.g k.j at_ x).2.2,Vu a0 a1 a2 a3 a5 fp fn k at_ ms fb b .own (d++[(Ae k.g k.j at_ x).1]) (if fs= .nil∧(Ae k.g k.j at_ x).2.1=[]then .nil else .own) (s++(Ae k.g k.j at_ x).2.1)++[Ci x]):=by
 obtain⟨st,_,_,_,hln⟩:=Ic hk.job at_ hx
 have ap:∀(h:List V) (y:Vtx),Gv 86 (tyG tVx) false h (GI fd d) (.lst 86 .own [Ci y])=some (GI .own (d++[y])):=fun h y=>by
  have cl:AU [Ci y]=true:=rfl
  have ty:[Ci y].all (tyG tVx)=true:=rfl
  unfold GI
  rw[List.map_append]
  rcases hf with rfl|⟨rfl,rfl⟩
  ·rw[Dt cl ty (by simp;omega)];rfl
  ·rw[List.map_nil,Dx cl ty (by simp)];rfl
 have ap2:∀(h:List V) (u:List Msg),u.length≤1000→Gv 152 (tyG 151) false h (.lst 152 fs (s.map Aa)) (Bl .sh u)=some (.lst 152 (if fs= .nil∧u=[]then .nil else .own) ((s++u).map Aa)):=fun h u hu=>by
  have cl:AU (u.map Aa)=true:=G5 u
  have ty:(u.map Aa).all (tyG 151)=true:=all_map (fun _=>rfl) u
  rw[List.map_append]
  rcases hf2 with rfl|⟨rfl,rfl⟩
  ·rw[Bl,Dt cl ty (by simp;omega)]
   simp only[reduceCtorEq,false_and,if_false];rfl
  ·cases u with
   |nil=>rfl
   |cons y u=>
    rw[Bl,List.map_nil,List.map_cons,Dx (by simpa using cl) (by simpa using ty) (by simp at hu⊢;omega)]
    simp;rfl
 rw[AEF]
 generalize Ae k.g k.j at_ x=q at*
 refine BP (R:=fun X=>X=_) rfl ?_
 iterate 10 refine rb (R:=fun X=>X=_) rfl ?_
 refine BP (R:=fun X=>X=_) rfl ?_
 refine rb (R:=fun X=>X=_) (show Cl 57 _ _=_ from st) ?_
 iterate 4 refine rb (R:=fun X=>X=_) rfl ?_
 refine BP (R:=fun X=>X=_) rfl ?_
 refine BP (R:=fun X=>X=_) rfl ?_
 refine rb (R:=fun X=>X=_) rfl ?_
 refine BP (R:=fun X=>X=_) rfl ?_
 iterate 2 refine rb (R:=fun X=>X=_) rfl ?_
 refine BP (R:=fun X=>X=_) (by rcases hf with rfl|⟨rfl,rfl⟩<;>rfl) ?_
 refine rb (R:=fun X=>X=_) (ap _ q.1) ?_
 refine BP (R:=fun X=>X=_) rfl ?_
 refine rb (R:=fun X=>X=_) rfl ?_
 refine rb (R:=fun X=>X=_) (ap2 _ q.2.1 hln) ?_
 refine rb (R:=fun X=>X=_) rfl ?_
 refine rb (R:=fun X=>X=_) (x:=Vu a0 a1 a2 a3 a5 fp fn k at_ ms fb b .own (d++[q.1]) (if fs= .nil∧q.2.1=[]then .nil else .own) (s++q.2.1)++[Ci x]++[Ci x]++[Ci q.1]) (by split<;>rfl) ?_
 rfl
theorem ANG (hk:WkOk k) {fb:Fl} {b:List Vtx} {l:List Vtx} (hl:l.length≤64) (hx:∀x∈l,JI x):∀(m i:Nat) (fd fs:Fl) (d:List Vtx) (s:List Msg),i+m=l.length→d.length≤i→s.length≤1000*i→(fd= .own∨fd= .nil∧d=[])→(fs= .own∨fs= .nil∧s=[])→∃fd' fs':Fl,(fd'= .own∨fd'= .nil)∧(fs'= .own∨fs'= .nil)∧
 Jt c26 (GI .sh l) (.int .i64 (l.length:Int)) (.int .i64 (i:Int)) 13 (Vu a0 a1 a2 a3 a5 fp fn k at_ ms fb b fd d fs s)=some (.int .i64 (Dh (Ae k.g k.j at_) (l.drop i)).2.2,Vu a0 a1 a2 a3 a5 fp fn k at_ ms fb b fd' (d++(Dh (Ae k.g k.j at_) (l.drop i)).1) fs' (s++(Dh (Ae k.g k.j at_) (l.drop i)).2.1)):=by
 intro m
 induction m with
 |zero=>
  intro i fd fs d s hi hd hs hf hf2
  have ls:AL .lss (.int .i64 (i:Int)) (.int .i64 (l.length:Int))=some (.bool false):=by rw[b_lss,decide_eq_false (by omega)]
  refine⟨fd,fs,by rcases hf with rfl|⟨rfl,_⟩<;>simp,by rcases hf2 with rfl|⟨rfl,_⟩<;>simp,?_⟩
  rw[List.drop_eq_nil_of_le (by omega),Cb]
  simp only[Dh,List.append_nil]
  refine(AA ls _).trans ?_
  rfl
 |succ m ih=>
  intro i fd fs d s hi hd hs hf hf2
  have h:i<l.length:=by omega
  have ls:AL .lss (.int .i64 (i:Int)) (.int .i64 (l.length:Int))=some (.bool true):=by rw[b_lss,decide_eq_true (by omega)]
  have ix:Eg 86 (GI .sh l) (.int .i64 (i:Int))=some (.rop 86 (Ci l[i])):=by
   rw[EQ,List.getElem?_map,List.getElem?_eq_getElem h];rfl
  have ad:AL .add (.int .i64 (i:Int)) (.int .i64 1)=some (.int .i64 ((i+1:Nat):Int)):=by rw[DT,wrap_i64 (by omega) (by omega)];rfl
  have d2:=ASF (a0:=a0) (a1:=a1) (a2:=a2) (a3:=a3) (a5:=a5) (fp:=fp) (fn:=fn) (at_:=at_) (ms:=ms) hk (fb:=fb) (b:=b) (fd:=fd) (fs:=fs) (d:=d) (s:=s) (by omega) (by omega) hf hf2 (hx _ (List.getElem_mem h))
  obtain⟨_,_,_,_,hln⟩:=Ic hk.job at_ (hx _ (List.getElem_mem h))
  rw[List.drop_eq_getElem_cons h,Dh]
  by_cases hq:(Ae k.g k.j at_ l[i]).2.2=0
  ·obtain⟨fd',fs',hf',hf2',nx⟩:=ih (i+1) .own (if fs= .nil∧(Ae k.g k.j at_ l[i]).2.1=[]then .nil else .own) (d++[(Ae k.g k.j at_ l[i]).1]) (s++(Ae k.g k.j at_ l[i]).2.1) (by omega) (by simp;omega) (by simp;omega) (.inl rfl) (by
    by_cases hc:fs= .nil∧(Ae k.g k.j at_ l[i]).2.1=[]
    ·rw[if_pos hc]
     refine .inr ⟨rfl,?_⟩
     rcases hf2 with rfl|⟨_,rfl⟩
     ·cases hc.1
     ·rw[hc.2];rfl
    ·rw[if_neg hc];exact .inl rfl)
   refine⟨fd',fs',hf',hf2',?_⟩
   have ne:AL .neq (.int .i64 (Ae k.g k.j at_ l[i]).2.2) (.int .i64 0)=some (.bool false):=by rw[b_neq];simp[hq]
   rw[if_pos hq]
   simp only[show d++(Ae k.g k.j at_ l[i]).1::(Dh (Ae k.g k.j at_) (l.drop (i+1))).1=d++[(Ae k.g k.j at_ l[i]).1]++(Dh (Ae k.g k.j at_) (l.drop (i+1))).1 by simp,
    show s++((Ae k.g k.j at_ l[i]).2.1++(Dh (Ae k.g k.j at_) (l.drop (i+1))).2.1)=s++(Ae k.g k.j at_ l[i]).2.1++(Dh (Ae k.g k.j at_) (l.drop (i+1))).2.1 by simp]
   rw[←nx,Cb]
   clear ih nx hf hf2 hln hx
   generalize (if fs= .nil∧(Ae k.g k.j at_ l[i]).2.1=[]then Fl.nil else Fl.own)=fz at*
   generalize Ae k.g k.j at_ l[i]=q at*
   generalize l[i]=x at*
   generalize (i+1:Nat)=i2 at*
   generalize (l.length:Int)=ll at*
   generalize l.map Ci=LL at*
   refine(AA ls _).trans ?_
   refine(Ag _ _).trans ?_
   refine(AA ix _).trans ?_
   refine rb (R:=fun X=>X=_) rfl ?_
   refine rb (R:=fun X=>X=_) rfl ?_
   refine rb (R:=fun X=>X=_) rfl ?_
   refine Jh (R:=fun X=>X=_) d2 ?_
   refine BP (R:=fun X=>X=_) rfl ?_
   refine(AA ne _).trans ?_
   refine(Aj _ _).trans ?_
   refine(AA ad _).trans ?_
   refine BP (R:=fun X=>X=_) rfl ?_
   rfl
  ·refine⟨.own,(if fs= .nil∧(Ae k.g k.j at_ l[i]).2.1=[]then .nil else .own),.inl rfl,by split<;>simp,?_⟩
   have ne:AL .neq (.int .i64 (Ae k.g k.j at_ l[i]).2.2) (.int .i64 0)=some (.bool true):=by rw[b_neq];simp[hq]
   rw[if_neg hq,Cb]
   clear ih hf hf2 hln hx
   generalize (if fs= .nil∧(Ae k.g k.j at_ l[i]).2.1=[]then Fl.nil else Fl.own)=fz at*
   generalize Ae k.g k.j at_ l[i]=q at*
   generalize l[i]=x at*
   generalize (l.length:Int)=ll at*
   generalize l.map Ci=LL at*
   refine(AA ls _).trans ?_
   refine(Ag _ _).trans ?_
   refine(AA ix _).trans ?_
   refine rb (R:=fun X=>X=_) rfl ?_
   refine rb (R:=fun X=>X=_) rfl ?_
   refine rb (R:=fun X=>X=_) rfl ?_
   refine Jh (R:=fun X=>X=_) d2 ?_
   refine BP (R:=fun X=>X=_) rfl ?_
   refine(AA ne _).trans ?_
   refine(Ag _ _).trans ?_
   rfl
theorem AJi (hk:WkOk k) {fb:Fl} {b:List Vtx} {l:List Vtx} (hl:l.length≤64) (hx:∀x∈l,JI x):∃fd' fs':Fl,(fd'= .own∨fd'= .nil)∧(fs'= .own∨fs'= .nil)∧
 Cl 53 [GI .sh l,c26] (Vu a0 a1 a2 a3 a5 fp fn k at_ ms fb b .nil [] .nil [])=some (.int .i64 (Dh (Ae k.g k.j at_) l).2.2,Vu a0 a1 a2 a3 a5 fp fn k at_ ms fb b fd' (Dh (Ae k.g k.j at_) l).1 fs' (Dh (Ae k.g k.j at_) l).2.1):=by
 obtain⟨fd',fs',hf',hf2',lp⟩:=ANG (a0:=a0) (a1:=a1) (a2:=a2) (a3:=a3) (a5:=a5) (fp:=fp) (fn:=fn) (at_:=at_) (ms:=ms) hk (fb:=fb) (b:=b) hl hx l.length 0 .nil .nil [] [] (by omega) (Nat.le_refl 0) (by simp) (.inr ⟨rfl,rfl⟩) (.inr ⟨rfl,rfl⟩)
 have lL:E5 (GI .sh l)=some (.int .i64 (l.length:Int)):=by show some _=_;rw[List.length_map]
 refine⟨fd',fs',hf',hf2',?_⟩
 rw[List.drop_zero,List.nil_append,List.nil_append]at lp
 rw[←lp,Uj]
 exact AA lL _
theorem ANH (hk:WkOk k) (hfn:fn= .own∨fn= .nil∨fn= .sh) {fb fd fs:Fl} (hfd:fd= .own∨fd= .nil) {b:List Vtx} (cc:V) (co:List UInt8) (ha: -1000000≤at_∧at_≤1000000):∀(m i:Nat) (f:Fl) (bs:List (List UInt8)),i+m=(IC k at_ ms).length→bs.length≤i→(f= .own∨f= .nil∧bs=[])→
 Ot (.ref 6 [] 29) (.ref 7 [] 3) (.ref 9 [] 44) (.ref 11 [] 35) (.ref 14 [] 44) (vBs .sh (IC k at_ ms)) (.int .i64 ((IC k at_ ms).length:Int)) (.int .i64 (i:Int)) 6 (Vu a0 a1 a2 a3 a5 fp fn k at_ ms fb b fd (Eb k at_ ms).1 fs (Eb k at_ ms).2.1++[cc,Yv 0 co f bs])=
  some (Yv 0 co .sh (bs++((IC k at_ ms).drop i).map fun l=>(Ea l).1),[a0,a1,a2,a3,SK fn.wk fd.wk (doK k at_ ms),a5]):=by
 have hO:=Vb hk at_ ms
 generalize hOO:IC k at_ ms=O at*
 intro m
 induction m with
 |zero=>
  intro i f bs hi hb hf
  have ls:AL .lss (.int .i64 (i:Int)) (.int .i64 (O.length:Int))=some (.bool false):=by rw[b_lss,decide_eq_false (by omega)]
  have ad:AL .add (.int .i64 at_) (.int .i64 1)=some (.int .i64 (at_+1)):=by rw[DT,wrap_i64 (by omega) (by omega)]
  have pl:IA (bs.map V.str)=true:=CX (fun _=>rfl) bs
  have pk:(vG .sh k.g).pl=true:=by simp only[go_sem]
  rw[List.drop_eq_nil_of_le (by omega),List.map_nil,List.append_nil,JB]
  unfold doK
  generalize (Eb k at_ ms).1=dn at*
  generalize (Eb k at_ ms).2.1=sn at*
  clear hOO hO hk
  rcases hfn with rfl|rfl|rfl
  all_goals rcases hfd with rfl|rfl
  all_goals refine(AA ls _).trans ?_
  all_goals refine(Aj _ _).trans ?_
  all_goals refine rb (R:=fun X=>X=_) rfl ?_
  all_goals refine BP (R:=fun X=>X=_) rfl ?_
  all_goals refine rb (R:=fun X=>X=_) rfl ?_
  all_goals refine BP (R:=fun X=>X=_) rfl ?_
  all_goals refine rb (R:=fun X=>X=_) rfl ?_
  all_goals refine BP (R:=fun X=>X=_) rfl ?_
  all_goals iterate 5 refine rb (R:=fun X=>X=_) rfl ?_
  all_goals refine BP (R:=fun X=>X=_) rfl ?_
  all_goals refine rb (R:=fun X=>X=_) rfl ?_
  all_goals refine BP (R:=fun X=>X=_) rfl ?_
  all_goals refine rb (R:=fun X=>X=_) rfl ?_
  all_goals refine rb (R:=fun X=>X=_) ad ?_
  all_goals iterate 2 refine rb (R:=fun X=>X=_) rfl ?_
  all_goals refine BP (R:=fun X=>X=_) rfl ?_
  all_goals iterate 3 refine rb (R:=fun X=>X=_) rfl ?_
  all_goals refine BP (R:=fun X=>X=_) rfl ?_
  all_goals iterate 3 refine rb (R:=fun X=>X=_) rfl ?_
  all_goals refine BP (R:=fun X=>X=_) rfl ?_
  all_goals iterate 8 refine rb (R:=fun X=>X=_) rfl ?_
  all_goals rcases hf with rfl|⟨rfl,rfl⟩
  all_goals rfl
 |succ m ih=>
  intro i f bs hi hb hf
  have h:i<O.length:=by omega
  have ls:AL .lss (.int .i64 (i:Int)) (.int .i64 (O.length:Int))=some (.bool true):=by rw[b_lss,decide_eq_true (by omega)]
  have ho:=hO.2
  have ix:Eg 39 (vBs .sh O) (.int .i64 (i:Int))=some (.rop 39 (mB O[i])):=by
   rw[EQ,List.getElem?_map,List.getElem?_eq_getElem h];rfl
  have ad:AL .add (.int .i64 (i:Int)) (.int .i64 1)=some (.int .i64 ((i+1:Nat):Int)):=by rw[DT,wrap_i64 (by omega) (by omega)];rfl
  have hm:=hO.1 _ (List.getElem_mem h)
  have pt:=ACE (f:= .sh) hm.1 hm.2
  have ap:∀(h:List V),Gv 9 AM.tyS false h (.lst 9 f (bs.map V.str)) (.lst 9 .own [.str (Ea O[i]).1])=some (.lst 9 .own ((bs++[(Ea O[i]).1]).map V.str)):=fun h=>by
   have cl:AU [V.str (Ea O[i]).1]=true:=rfl
   have ty:[V.str (Ea O[i]).1].all AM.tyS=true:=rfl
   rw[List.map_append]
   rcases hf with rfl|⟨rfl,rfl⟩
   ·rw[Dt cl ty (by simp;omega)];rfl
   ·rw[List.map_nil,Dx cl ty (by simp)];rfl
  have nx:=ih (i+1) .own (bs++[(Ea O[i]).1]) (by omega) (by simp;omega) (.inl rfl)
  rw[List.drop_eq_getElem_cons h,List.map_cons,show bs++(Ea O[i]).1::((O.drop (i+1)).map fun l=>(Ea l).1)=bs++[(Ea O[i]).1]++(O.drop (i+1)).map (fun l=>(Ea l).1)by simp,←nx,JB]
  clear ih nx hf hm hO hOO
  generalize (Eb k at_ ms).1=dn at*
  generalize (Eb k at_ ms).2.1=sn at*
  generalize Ea O[i]=q at*
  generalize O[i]=o at*
  generalize (i+1:Nat)=i2 at*
  generalize (O.length:Int)=ll at*
  generalize O.map mB=OL at*
  refine(AA ls _).trans ?_
  refine(Ag _ _).trans ?_
  refine(AA ix _).trans ?_
  refine rb (R:=fun X=>X=_) (x:=mB o) rfl ?_
  refine rb (R:=fun X=>X=_) (show Cl 61 _ _=_ from pt) ?_
  iterate 5 refine rb (R:=fun X=>X=_) rfl ?_
  refine rb (R:=fun X=>X=_) (ap _) ?_
  iterate 2 refine rb (R:=fun X=>X=_) rfl ?_
  exact AA ad _
theorem ANI (hk:WkOk k) (hfn:fn= .own∨fn= .nil∨fn= .sh) (hms:ms.length≤1000000) (h1:at_=k.step) (h2:at_<k.j.steps) (h3:0≤at_):∃fd:Fl,(fd= .sh∨fd= .nil)∧
 Cl 17 [.ref 4 [] 103,.int .i64 at_,Bl .sh ms] [a0,a1,a2,a3,SK fp fn k,a5]=some (if doE k at_ ms=0 then(Yv 0 (doC k at_ ms) .sh ((IC k at_ ms).map fun l=>(Ea l).1),[a0,a1,a2,a3,SK fn.wk fd (doK k at_ ms),a5])else(Yv (doE k at_ ms) [] .sh [],[a0,a1,a2,a3,SK fp fn k,a5])):=by
 have hst:k.j.steps≤64:=by have:=hk.job;simp only[EX,decide_eq_true_eq]at this;exact this.2.2.2.2.2
 obtain⟨b1,b2⟩:=Zc hk at_ ms
 obtain⟨d1,d2,d3,d4⟩:=Va hk at_ ms
 have hO:=Vb hk at_ ms
 obtain⟨fb,hfb,e1⟩:=AJh (a0:=a0) (a1:=a1) (a2:=a2) (a3:=a3) (a5:=a5) (fp:=fp) (fn:=fn) (k:=k) (at_:=at_) hms hk.len
 have hb:FM (DW k.j ms) k.now=J6 k at_ ms:=rfl
 rw[hb]at e1
 obtain⟨fd,fs,hfd,hfs,e2⟩:=AJi (a0:=a0) (a1:=a1) (a2:=a2) (a3:=a3) (a5:=a5) (fp:=fp) (fn:=fn) (at_:=at_) (ms:=ms) hk (fb:=fb) (b:=(J6 k at_ ms).1) b1 b2
 have hd:Dh (Ae k.g k.j at_) (J6 k at_ ms).1=Eb k at_ ms:=rfl
 rw[hd]at e2
 have sp:=YG (N:=k.N) (l:=(Eb k at_ ms).2.1) hk.n1 hk.n64 (by omega) d3
 rw[show Np k.N (Eb k at_ ms).2.1=IC k at_ ms from rfl]at sp
 have mk:=ACI (w:=(k.w:Int)) (st:=at_) ⟨by have:=hk.w;have:=hk.n64;omega,by have:=hk.w;have:=hk.n64;omega⟩ ⟨by omega,by omega⟩ d4 (by omega) hO
 have hcm:Ky (okR (mkC (k.w:Int) at_ (Eb k at_ ms).1 (IC k at_ ms))).1:=by
  unfold okR
  split
  ·exact AFv ⟨by have:=hk.w;have:=hk.n64;omega,by have:=hk.w;have:=hk.n64;omega⟩ ⟨by omega,by omega⟩ _ hO
  ·exact AKx
 have cp:=ACG hcm
 have lp:=ANH (a0:=a0) (a1:=a1) (a2:=a2) (a3:=a3) (a5:=a5) (fp:=fp) (at_:=at_) (ms:=ms) hk hfn (fb:=fb) (fd:=fd) (fs:=fs) hfd (b:=(J6 k at_ ms).1) (vC .sh (okR (mkC (k.w:Int) at_ (Eb k at_ ms).1 (IC k at_ ms))).1) (doC k at_ ms) (by omega) (IC k at_ ms).length 0 .nil [] (by omega) (Nat.le_refl 0) (.inr ⟨rfl,rfl⟩)
 rw[List.drop_zero,List.nil_append]at lp
 refine⟨fd.wk,by rcases hfd with rfl|rfl<;>simp[Fl.wk],?_⟩
 have ne:AL .neq (.int .i64 at_) (.int .i64 k.step)=some (.bool false):=by rw[b_neq];simp[h1]
 have ge:AL .geq (.int .i64 at_) (.int .i64 k.j.steps)=some (.bool false):=by rw[b_geq,decide_eq_false (by omega)]
 have lO:E5 (.lst 39 .sh ((IC k at_ ms).map (Bl .sh)))=some (.int .i64 ((IC k at_ ms).length:Int)):=by show some _=_;rw[List.length_map]
 have n0:∀z:Int,z≠0→AL .neq (.int .i64 z) (.int .i64 0)=some (.bool true):=fun z hz=>by rw[b_neq];simp[hz]
 have e0:∀z:Int,z≠0→AL .eql (.int .i64 z) (.int .i64 0)=some (.bool false):=fun z hz=>by rw[b_eql,decide_eq_false hz]
 have e1':Cl 53 (AQ [(GI fn k.now).weak,c16]) (Vu a0 a1 a2 a3 a5 fp fn k at_ ms .nil [] .nil [] .nil [])=some (.int .i64 (J6 k at_ ms).2,Vu a0 a1 a2 a3 a5 fp fn k at_ ms fb (J6 k at_ ms).1 .nil [] .nil []):=by rcases hfn with rfl|rfl|rfl<;>exact e1
 have e2':Cl 53 (AQ [(GI fb (J6 k at_ ms).1).weak,c26]) (Vu a0 a1 a2 a3 a5 fp fn k at_ ms fb (J6 k at_ ms).1 .nil [] .nil [])=some (.int .i64 (Eb k at_ ms).2.2,Vu a0 a1 a2 a3 a5 fp fn k at_ ms fb (J6 k at_ ms).1 fd (Eb k at_ ms).1 fs (Eb k at_ ms).2.1):=by rcases hfb with rfl|rfl<;>exact e2
 have sp':∀H,Cl 58 (AB H [.int .i64 (k.N:Int),(V.lst 152 fs ((Eb k at_ ms).2.1.map Aa)).weak]) []=some (.tup [.lst 39 .sh ((IC k at_ ms).map (Bl .sh)),.int .i64 0],[]):=fun H=>by rcases hfs with rfl|rfl<;>exact sp
 have mk':∀H,Cl 59 (AB H [.int .i64 (k.w:Int),.int .i64 at_,(GI fd (Eb k at_ ms).1).weak,(V.lst 39 .sh ((IC k at_ ms).map (Bl .sh))).weak]) []=some (vGC (okR (mkC (k.w:Int) at_ (Eb k at_ ms).1 (IC k at_ ms))),[]):=fun H=>by rcases hfd with rfl|rfl<;>exact mk
 have lw:SC true [.int .i64 (k.w:Int),.int .i64 at_,(GI fd (Eb k at_ ms).1).weak,(V.lst 39 .sh ((IC k at_ ms).map (Bl .sh))).weak]=true:=by rcases hfd with rfl|rfl<;>rfl
 rw[Y3]
 iterate 3 refine BP (R:=fun X=>X=_) rfl ?_
 refine Yu (R:=fun X=>X=_) ?_
 iterate 5 refine rb (R:=fun X=>X=_) rfl ?_
 refine rb (R:=fun X=>X=_) ne ?_
 refine(Aj _ _).trans ?_
 iterate 6 refine rb (R:=fun X=>X=_) rfl ?_
 refine rb (R:=fun X=>X=_) ge ?_
 refine(Aj _ _).trans ?_
 iterate 3 refine rb (R:=fun X=>X=_) rfl ?_
 refine rb (R:=fun X=>X=_) rfl ?_
 refine rb (R:=fun X=>X=_) rfl ?_
 refine rb (R:=fun X=>X=_) e1' ?_
 by_cases q1:(J6 k at_ ms).2=0
 ·have q1':AL .eql (.int .i64 (J6 k at_ ms).2) (.int .i64 0)=some (.bool true):=by rw[b_eql,decide_eq_true q1]
  refine rb (R:=fun X=>X=_) q1' ?_
  refine Yu (R:=fun X=>X=_) ?_
  refine(Ag _ _).trans ?_
  refine rb (R:=fun X=>X=_) rfl ?_
  refine rb (R:=fun X=>X=_) rfl ?_
  refine rb (R:=fun X=>X=_) e2' ?_
  have qe:doE k at_ ms=(Eb k at_ ms).2.2:=by unfold doE;rw[if_pos q1]
  by_cases q2:(Eb k at_ ms).2.2=0
  ·have q2':AL .neq (.int .i64 (Eb k at_ ms).2.2) (.int .i64 0)=some (.bool false):=by rw[b_neq];simp[q2]
   refine rb (R:=fun X=>X=_) q2' ?_
   refine(Aj _ _).trans ?_
   rw[if_pos (by rw[qe];exact q2),←lp]
   clear lp e1 e2 hO b1 b2 d3 d4 hb hd
   unfold doC at*
   generalize okR (mkC (k.w:Int) at_ (Eb k at_ ms).1 (IC k at_ ms))=cq at*
   generalize Q8 cq.1=pq at*
   iterate 5 refine rb (R:=fun X=>X=_) rfl ?_
   refine rb (R:=fun X=>X=_) (sp' _) ?_
   iterate 8 refine rb (R:=fun X=>X=_) rfl ?_
   refine BP (R:=fun X=>X=_) lw ?_
   refine rb (R:=fun X=>X=_) (mk' _) ?_
   have pc:(vC .sh cq.1).pl=true:=by simp only[go_sem]
   have stc:∀(L:List V) (z:V),CY (tyG tCm) 77 (L++[z]) (.ref L.length [] 77) (vC .sh cq.1).weak=some (L++[vC .sh cq.1]):=fun L z=>by rw[(V.PF _ pc).weak];exact Qj rfl ((V.PF _ pc).under _) _
   have cp':∀L,Cl 60 (AB L [(vC .sh cq.1).weak]) []=some (.tup [.str pq.1,.int .i64 (pq.2:Int)],[]):=fun L=>by rw[(V.PF _ pc).weak,AB,AB,(V.PF _ pc).reify];exact cp
   iterate 2 refine rb (R:=fun X=>X=_) rfl ?_
   refine rb (R:=fun X=>X=_) (stc _ _) ?_
   refine rb (R:=fun X=>X=_) rfl ?_
   refine rb (R:=fun X=>X=_) (cp' _) ?_
   iterate 4 refine rb (R:=fun X=>X=_) rfl ?_
   refine rb (R:=fun X=>X=_) lO ?_
   rfl
  ·have q2':AL .neq (.int .i64 (Eb k at_ ms).2.2) (.int .i64 0)=some (.bool true):=n0 _ q2
   refine rb (R:=fun X=>X=_) q2' ?_
   refine(Ag _ _).trans ?_
   rw[if_neg (by rw[qe];exact q2),qe]
   iterate 3 refine rb (R:=fun X=>X=_) rfl ?_
   rfl
 ·have qe:doE k at_ ms=(J6 k at_ ms).2:=by unfold doE;rw[if_neg q1]
  refine rb (R:=fun X=>X=_) (e0 _ q1) ?_
  refine Yu (R:=fun X=>X=_) ?_
  refine(Aj _ _).trans ?_
  refine rb (R:=fun X=>X=_) (n0 _ q1) ?_
  refine(Ag _ _).trans ?_
  rw[if_neg (by rw[qe];exact q1),qe]
  iterate 3 refine rb (R:=fun X=>X=_) rfl ?_
  rfl
end
end
section
open Go AM
def NT (l:List (List UInt8)):List UInt8:=(l.map fun s=>BG s.length++s).flatten
def AKy (k:Wkr):List UInt8:=BG 83++BG k.step.toNat++BG k.now.length++NT (k.now.map vtxB)
theorem Zd (s:List UInt8) (l:List (List UInt8)):NT (s::l)=BG s.length++s++NT l:=by simp[NT]
section
variable {h:List V} {id:Nat} {fp fn:Fl} {k:Wkr}
theorem Q9 {h:List V} {id:Nat} {u:TypeId} {fs:List V} {i:Nat} {v:V} (hh:h[id]?=some (.agg u fs)) (hf:fs[i]?=some v) (z:List V) (t:TypeId):AV (h++z) t (.ref id [i] t)=some v:=Cf (L6 (ABj z hh) hf)
theorem AF0 (hk:h[id]?=some (SK fp fn k)):Cl 25 [.ref id [] 103] h=some (.int .i64 k.step,h):=by
 have l1:AV h 3 (.ref id [4] 3)=some (.int .i64 k.step):=by
  have:=Q9 hk (i:=4) (v:= .int .i64 k.step) rfl [] 3
  rwa [List.append_nil]at this
 rw[ALY]
 refine(AA (show BD (.ref id [] 103)=some (.ref id [] 103)from rfl) _).trans ?_
 refine(AA (show fA 103 3 4 (.ref id [] 103)=some (.ref id [4] 3)from rfl) _).trans ?_
 refine(AA l1 _).trans ?_
 simp only[AP,V.unmut,V.norm,V.clean,V.over,Bool.and_self,if_true,take_len]
theorem AJj {L:List (List UInt8)} (hL:∀s∈L,s.length≤50) (hn:L.length≤1000):∀(m i:Nat) (l:List UInt8),i+m=L.length→l.length≤100+100*i→
 Ui (DF h.length) (.lst 9 .sh (L.map V.str)) (.int .i64 (L.length:Int)) (.int .i64 (i:Int)) h.length (h++[BA .own l])=some (.str (l++NT (L.drop i)),h):=by
 intro m
 induction m with
 |zero=>
  intro i l hi hl
  have ls:AL .lss (.int .i64 (i:Int)) (.int .i64 (L.length:Int))=some (.bool false):=by rw[b_lss,decide_eq_false (by omega)]
  have dn:=Fh (h:=h++[BA .own l]) (id:=h.length) (FY h _)
  rw[List.drop_eq_nil_of_le (by omega),show NT []=[]from rfl,List.append_nil,Sv]
  refine(AA ls _).trans ?_
  refine(Aj _ _).trans ?_
  refine(AA (show Cl 71 (AQ [DF h.length]) _=_ from dn) _).trans ?_
  simp only[AP,V.unmut,V.norm,V.clean,V.over,Bool.and_self,if_true,Qe]
 |succ m ih=>
  intro i l hi hl
  have hh:i<L.length:=by omega
  have ls:AL .lss (.int .i64 (i:Int)) (.int .i64 (L.length:Int))=some (.bool true):=by rw[b_lss,decide_eq_true (by omega)]
  have ix:Eg 9 (.lst 9 .sh (L.map V.str)) (.int .i64 (i:Int))=some (.rop 9 (.str L[i])):=by
   rw[EQ,List.getElem?_map,List.getElem?_eq_getElem hh];rfl
  have ad:AL .add (.int .i64 (i:Int)) (.int .i64 1)=some (.int .i64 ((i+1:Nat):Int)):=by rw[DT,wrap_i64 (by omega) (by omega)];rfl
  have h50:=hL _ (List.getElem_mem hh)
  have tx:=Qu (h:=h++[BA .own l]) (id:=h.length) (s:=L[i]) (FY h _) (.inl rfl) (by omega)
  rw[IU]at tx
  have nl:=Ap 10 (L[i]).length
  have nx:=ih (i+1) (l++BG (L[i]).length++L[i]) (by omega) (by simp[BG];omega)
  rw[List.drop_eq_getElem_cons hh,Zd,show l++(BG (L[i]).length++L[i]++NT (L.drop (i+1)))=l++BG (L[i]).length++L[i]++NT (L.drop (i+1))by simp,←nx,Sv]
  refine(AA ls _).trans ?_
  refine(Ag _ _).trans ?_
  refine(AA ix _).trans ?_
  refine(AA (show AV _ 9 (.rop 9 (.str L[i]))=some (.str L[i])from En) _).trans ?_
  refine(AA (show Cl 70 (AQ [DF h.length,.str L[i]]) _=_ from tx) _).trans ?_
  exact AA ad _
theorem ACM (hk:h[id]?=some (SK fp fn k)) (hfn:fn= .own∨fn= .nil∨fn= .sh) (h0:0≤k.step) (h64:k.step≤1000) (hx:∀x∈k.now,JI x) (hn:k.now.length≤64):Cl 21 [.ref id [] 103] h=some (.str (AKy k),h):=by
 have nw:=Gy h
 have e0:([]:List UInt8)++BG 83=BG 83:=rfl
 have m1:=Dn (h:=h++[BA .nil []]) (id:=h.length) (n:=83) (FY h _) (.inr rfl) (by omega) (by simp)
 rw[IU,e0]at m1
 have b1:=Ap 10 83
 have b2:=Ap 10 k.step.toNat
 have b3:=Ap 10 k.now.length
 have m2:=Dn (h:=h++[BA .own (BG 83)]) (id:=h.length) (n:=k.step.toNat) (FY h _) (.inl rfl) (by omega) (by simp only[BG];omega)
 rw[IU]at m2
 have m3:=Dn (h:=h++[BA .own (BG 83++BG k.step.toNat)]) (id:=h.length) (n:=k.now.length) (FY h _) (.inl rfl) (by omega) (by simp only[BG,List.length_append];omega)
 rw[IU]at m3
 have rw_:=X4 hx (by omega) .sh
 have lp:=AJj (h:=h) (L:=k.now.map vtxB) (fun s hs=>by obtain⟨x,_,rfl⟩:=List.mem_map.1 hs;exact X3 x) (by simp;omega) (k.now.map vtxB).length 0 (BG 83++BG k.step.toNat++BG k.now.length) (by omega) (by simp only[BG,List.length_append];omega)
 rw[List.drop_zero]at lp
 have ls:∀z,AV (h++z) 3 (.ref id [4] 3)=some (.int .i64 k.step):=fun z=>Q9 hk (i:=4) rfl z _
 have cs:SG .u64 (.int .i64 k.step)=some (.int .u64 (k.step.toNat:Int)):=by rw[cvI_u64 (by omega) (by omega)];congr 2;omega
 have ln:∀z,CW (h++z) 35 (.ref id [6] 35)=some ((GI fn k.now).weak):=fun z=>by
  have:=Q9 hk (i:=6) (v:=GI fn k.now) rfl z 35
  simp only[CW,this,Option.map_some]
 have ll:E5 ((GI fn k.now).weak)=some (.int .i64 (k.now.length:Int)):=by rcases hfn with rfl|rfl|rfl<;>(show some _=_;rw[List.length_map])
 have cl:SG .u64 (.int .i64 (k.now.length:Int))=some (.int .u64 (k.now.length:Int)):=cvI_u64 (by omega) (by omega)
 have rr:∀H,Cl 64 (AB H [(GI fn k.now).weak]) []=some (.lst 9 .sh ((k.now.map vtxB).map V.str),[]):=fun H=>by rcases hfn with rfl|rfl|rfl<;>exact rw_
 have lL:E5 (.lst 9 .sh ((k.now.map vtxB).map V.str))=some (.int .i64 ((k.now.map vtxB).length:Int)):=by show some _=_;rw[List.length_map]
 have nn:BD (.ref id [] 103)=some (.ref id [] 103):=rfl
 have f4:fA 103 3 4 (.ref id [] 103)=some (.ref id [4] 3):=rfl
 have f6:fA 103 35 6 (.ref id [] 103)=some (.ref id [6] 35):=rfl
 rw[AKy,←lp,ALX]
 refine(AA (show Cl 68 (AQ []) h=_ from nw) _).trans ?_
 refine(AA (show Cl 69 (AQ [DF h.length,.int .u64 83]) _=_ from m1) _).trans ?_
 refine(AA nn _).trans ?_
 refine(AA f4 _).trans ?_
 refine(AA (ls _) _).trans ?_
 refine(AA cs _).trans ?_
 refine(AA (show Cl 69 (AQ [DF h.length,.int .u64 (k.step.toNat:Int)]) _=_ from m2) _).trans ?_
 refine(AA nn _).trans ?_
 refine(AA f6 _).trans ?_
 refine(AA (ln _) _).trans ?_
 refine(AA ll _).trans ?_
 refine(AA cl _).trans ?_
 refine(AA (show Cl 69 (AQ [DF h.length,.int .u64 (k.now.length:Int)]) _=_ from m3) _).trans ?_
 refine(AA nn _).trans ?_
 refine(AA f6 _).trans ?_
 refine(AA (ln _) _).trans ?_
 refine(AA (rr _) _).trans ?_
 exact AA lL _
end
end
section
open Go AM
section
variable {a b c:V}
end
end
section
open Go AM
section
variable {a b:V}
theorem AF1 {g:Grf} {j:Job} {N w:Nat} (ha:Bo 4 [a,b]=true) {L:List Nat} (hL:∀v∈L,v<64) (hn:L.length≤64):∀(n i:Nat) (f:Fl) (xs:List Vtx),i+n=L.length→xs.length=i→(f= .own∨f= .nil)→∃f':Fl,(f'= .own∨f'= .nil)∧
 Uh (.ref 3 [] 26) (.ref 4 [] 103) (vNs .sh L) (.int .i64 (L.length:Int)) (.int .i64 (i:Int)) 2 [a,b,vG .sh g,vJ j,vWk g j N w f xs]=
  some (.tup [.ref 4 [] 103,.int .i64 0],[a,b,vG .sh g,vJ j,vWk g j N w f' (xs++(L.drop i).map fun(v:Nat)=>firstX j (v:Int))]):=by
 intro n
 induction n with
 |zero=>
  intro i f xs hi hx hf
  refine⟨f,hf,?_⟩
  have ls:AL .lss (.int .i64 (i:Int)) (.int .i64 (L.length:Int))=some (.bool false):=by rw[b_lss,decide_eq_false (by omega)]
  rw[List.drop_eq_nil_of_le (by omega),List.map_nil,List.append_nil,Sr]
  simp(disch:=first|assumption|omega|(with_reducible rfl)|(simp only[go_sem];done)|(simp only[go_sem];omega)|fail) only[↓reduceIte,↓AO,Nat.reduceAdd,go_sem,ls]
  rfl
 |succ n ih=>
  intro i f xs hi hx hf
  have h:i<L.length:=by omega
  have hv:=hL _ (List.getElem_mem h)
  obtain⟨f',hf',ih'⟩:=ih (i+1) .own (xs++[firstX j (L[i]:Int)]) (by omega) (by simp;omega) (Or.inl rfl)
  refine⟨f',hf',?_⟩
  have ls:AL .lss (.int .i64 (i:Int)) (.int .i64 (L.length:Int))=some (.bool true):=by rw[b_lss,decide_eq_true (by omega)]
  have ix:Eg 3 (vNs .sh L) (.int .i64 (i:Int))=some (.rop 3 (.int .i64 (L[i]:Int))):=by
   rw[vNs,EQ,List.getElem?_map,List.getElem?_eq_getElem h];rfl
  have hfi:=AFb j (v:=(L[i]:Int)) (by omega) (by omega)
  have ad:AL .add (.int .i64 (i:Int)) (.int .i64 1)=some (.int .i64 ((i+1:Nat):Int)):=by rw[DT,wrap_i64 (by omega) (by omega)];rfl
  have pg:(vG .sh g).pl=true:=by simp only[go_sem]
  have aw:∀v:V,Bo 4 ([a,b,vG .sh g,vJ j,v].set 4 void)=true:=by
   intro v
   simp only[Bo,Bool.and_eq_true]at ha
   simp only[List.set_cons_succ,List.set_cons_zero,Bo,ha.1,ha.2.1,(V.PF _ pg).away];rfl
  have rj:∀h:List V,AB h [vJ j,.int .i64 (L[i]:Int)]=[vJ j,.int .i64 (L[i]:Int)]:=fun h=>rfl
  have cf:∀(v:V) (k:V→List V→Rv),Dk P CJ W (some (.ref 4 [] 103)) (.clo 44 []) [vJ j,.int .i64 (L[i]:Int)] [a,b,vG .sh g,vJ j,v] k=k (Ci (firstX j (L[i]:Int))) [a,b,vG .sh g,vJ j,v]:=
   fun v k=>Za (by kernel_rfl) (by kernel_rfl) (v:=v) rfl (aw v) rfl (rj _) ((V.PF _ (AMW _)).away 4) hfi k
  have tk:∀(y0 y1 y2 y3 y4 y5 y7:V) (q:Fl) (R:List V),BN [a,b,vG .sh g,vJ j,.agg tWk [y0,y1,y2,y3,y4,y5,.lst 86 q R,y7]] 35 (.ref 4 [6] 35)=some (.lst 86 q R,[a,b,vG .sh g,vJ j,.agg tWk [y0,y1,y2,y3,y4,y5,.lst 86 q.wk R,y7]]):=
   fun y0 y1 y2 y3 y4 y5 y7 q R=>AFx (h:=[a,b,vG .sh g,vJ j,.agg tWk [y0,y1,y2,y3,y4,y5,.lst 86 q R,y7]]) (id:=4) rfl rfl
  have sb6:∀p t,Dv (.ref 4 [] 103) (.ref 4 p t)=true:=fun _ _=>rfl
  have sb4:Dv (.ref 3 [] 26) (.ref 3 [] 26)=true:=rfl
  have df:(KH (.ref 4 [] 103) (.ref 3 [] 26)&&true)=true:=rfl
  have nn:BD (.ref 4 [] 103)=some (.ref 4 [] 103):=rfl
  have ap:∀h:List V,Gv 86 (tyG tVx) false h (.lst 86 f (xs.map Ci)) (.lst 86 .own [Ci (firstX j (L[i]:Int))])=some (.lst 86 .own ((xs++[firstX j (L[i]:Int)]).map Ci)):=fun h=>by
   have cl:AU [Ci (firstX j (L[i]:Int))]=true:=rfl
   have ty:[Ci (firstX j (L[i]:Int))].all (tyG tVx)=true:=rfl
   rw[List.map_append]
   rcases hf with rfl|rfl
   ·rw[Dt cl ty (by simp;omega)];rfl
   ·rw[Dx cl ty (by simp;omega)];rfl
  have e:xs++(L.drop i).map (fun(v:Nat)=>firstX j (v:Int))=xs++[firstX j (L[i]:Int)]++(L.drop (i+1)).map (fun(v:Nat)=>firstX j (v:Int)):=by
   rw[List.drop_eq_getElem_cons h,List.map_cons,List.append_assoc];rfl
  rw[e,←ih',Sr]
  clear ih ih' e aw hL hfi
  generalize firstX j (L[i]:Int)=y at*
  generalize (L[i]:Int)=z at*
  generalize (i+1:Nat)=i2 at*
  generalize (L.length:Int)=ll at*
  generalize vNs .sh L=LL at*
  rcases hf with rfl|rfl
  all_goals (repeat' with_reducible first|refine(Ag _ _).trans ?_|refine(Aj _ _).trans ?_|refine(AO _ _).trans ?_|((first|(refine' (AA ?_ _).trans ?_;rotate_left)|refine(if_pos ?_).trans ?_|refine(BU ?_ _ _).trans ?_);focus (first|rfl|(simp(disch:=first|assumption|omega|with_reducible rfl|(simp only[go_sem]<;>omega)|fail) only[↓reduceIte,↓AO,Nat.reduceAdd,go_sem,Bool.not_true,Bool.not_false,ls,ix,df,nn,sb6,tk,sb4,rj,AEr,AEs]<;>first|rfl|omega)|assumption|omega))|(refine(BF ?_ _ _).trans ?_;focus (first|(simp(disch:=first|assumption|omega|with_reducible rfl|(simp only[go_sem]<;>omega)|fail) only[↓reduceIte,↓AO,Nat.reduceAdd,go_sem,Bool.not_true,Bool.not_false,ls,ix,df,nn,sb6,tk,sb4,rj,AEr,AEs]<;>omega)|assumption|omega))|fail)
  all_goals refine(cf _ _).trans ?_
  all_goals (repeat' with_reducible first|refine(Ag _ _).trans ?_|refine(Aj _ _).trans ?_|refine(AO _ _).trans ?_|((first|(refine' (AA ?_ _).trans ?_;rotate_left)|refine(if_pos ?_).trans ?_|refine(BU ?_ _ _).trans ?_);focus (first|rfl|(simp(disch:=first|assumption|omega|with_reducible rfl|(simp only[go_sem]<;>omega)|fail) only[↓reduceIte,↓AO,Nat.reduceAdd,go_sem,Bool.not_true,Bool.not_false,ap,nn,ad]<;>first|rfl|omega)|assumption|omega))|(refine(BF ?_ _ _).trans ?_;focus (first|(simp(disch:=first|assumption|omega|with_reducible rfl|(simp only[go_sem]<;>omega)|fail) only[↓reduceIte,↓AO,Nat.reduceAdd,go_sem,Bool.not_true,Bool.not_false,ap,nn,ad]<;>omega)|assumption|omega))|fail)
  all_goals rfl
end
section
variable {a b:V}
theorem AF2 {g:Grf} (hl:g.es.length<1000000) {j:Job} (hj:EX g j=true) {N w:Nat} (h1:1≤N) (hN:N≤64) (hw:w<N) (ha:Bo 4 [a,b]=true):∃f':Fl,(f'= .own∨f'= .nil)∧
 Cl 11 [vG .sh g,vJ j,.int .i64 (N:Int),.int .i64 (w:Int)] [a,b]=some (.tup [.ref 4 [] 103,.int .i64 0],[a,b,vG .sh g,vJ j,vWk g j N w f' (Zb g j N w)]):=by
 have hg':=ACJ hj
 have hlen:=VY g.n.toNat N w
 obtain⟨f',hf',lp⟩:=AF1 (g:=g) (j:=j) (N:=N) (w:=w) ha (L:=ofL g.n.toNat N w) (fun v hv=>by have:=AFi hv;omega) (by omega) (ofL g.n.toNat N w).length 0 .nil [] (by omega) rfl (Or.inr rfl)
 refine⟨f',hf',?_⟩
 rw[List.drop_zero,List.nil_append]at lp
 have hc:=UB hl j
 rw[if_pos hj]at hc
 have hof:=AMw (n:=g.n.toNat) (N:=N) (w:=w) (by omega) (by omega) (by omega) hN hw
 rw[show(g.n.toNat:Int)=g.n by omega]at hof
 have ce:=ADF (l:=g.es) (by omega)
 rw[show Zb g j N w=(ofL g.n.toNat N w).map (fun(v:Nat)=>firstX j (v:Int))from rfl,←lp,ALU]
 have lL:E5 (vNs .sh (ofL g.n.toNat N w))=some (.int .i64 ((ofL g.n.toNat N w).length:Int)):=by show some _=_;rw[List.length_map]
 clear lp hlen
 generalize ofL g.n.toNat N w=L at*
 simp(disch:=first|assumption|omega|(with_reducible rfl)|(simp only[go_sem];done)|(simp only[go_sem];omega)|fail) only[↓reduceIte,↓AO,Nat.reduceAdd,go_sem,hc,hof,ce,lL]
 rfl
end
end
section
namespace AM
open Go
mutual
def UE (P:Program) (A:Ann) (Q:FuncId→List V→List V→Option (V×List V)):Nat→FuncId→List V→List V→Option (V×List V)
 |0,_,_,_=>none
 |k+1,f,vs,h=>match Q f vs h with
  |some r=>some r
  |none=>body P A ⟨UE P A Q k,UF P A Q k⟩ f vs h
def UF (P:Program) (A:Ann) (Q:FuncId→List V→List V→Option (V×List V)):Nat→FuncId→Nat→Code→St→Option (Ex×St)
 |0,_,_,_,_=>none
 |k+1,fn,blk,b,st=>round P A ⟨UE P A Q k,UF P A Q k⟩ fn blk b st
end
theorem Orc.le.limO {O O':Orc} (hl:Orc.le O O'):LimO (fun n=>if n=0 then O else O') O':=by
 constructor
 ·intro f vs h
  refine⟨fun n r hr=> ?_,fun r=>⟨fun hr=>⟨1,by simpa using hr⟩,fun⟨n,hn⟩=> ?_⟩⟩
  ·by_cases h0:n=0
   ·subst h0;simpa using hl.1 _ _ _ _ (by simpa using hr)
   ·simpa [h0]using hr
  ·by_cases h0:n=0
   ·subst h0;exact hl.1 _ _ _ _ (by simpa using hn)
   ·simpa [h0]using hn
 ·intro fn blk b st
  refine⟨fun n r hr=> ?_,fun r=>⟨fun hr=>⟨1,by simpa using hr⟩,fun⟨n,hn⟩=> ?_⟩⟩
  ·by_cases h0:n=0
   ·subst h0;simpa using hl.2 _ _ _ _ _ (by simpa using hr)
   ·simpa [h0]using hr
  ·by_cases h0:n=0
   ·subst h0;exact hl.2 _ _ _ _ _ (by simpa using hn)
   ·simpa [h0]using hn
theorem Az {P:Program} {A:Ann} {Q:FuncId→List V→List V→Option (V×List V)} (hQ:∀f vs h r,Q f vs h=some r→H6 P A f vs h=some r) (k:Nat):
 (∀f vs h r,UE P A Q k f vs h=some r→H6 P A f vs h=some r)∧(∀fn blk b st r,UF P A Q k fn blk b st=some r→Si P A fn blk b st=some r):=by
 induction k with
 |zero=>exact⟨fun _ _ _ _ h=>by simp[UE]at h,fun _ _ _ _ _ h=>by simp[UF]at h⟩
 |succ k ih=>
  have hl:Orc.le ⟨UE P A Q k,UF P A Q k⟩ (IK P A):=ih
  constructor
  ·intro f vs h r hr
   simp only[UE]at hr
   split at hr
   ·rename_i e;rw[←Option.some.inj hr];exact hQ _ _ _ _ e
   ·rw[V5]
    have:=(Oo (P:=P) (A:=A) hl.limO f vs h).up 0 r (by simpa using hr)
    simpa using this
  ·intro fn blk b st r hr
   simp only[UF]at hr
   rw[V6]
   have:=(Lm (P:=P) (A:=A) hl.limO fn blk b st).up 0 r (by simpa using hr)
   simpa using this
end AM
end
section
open Go AM
def AF3:List V→Option (List UInt8)
 |[]=>some []
 | .int .u8 (.ofNat n)::l=>if n<256 then(AF3 l).map (UInt8.ofNat n::·)else none
 |_=>none
def AF4:List V→Option (List (Fl×List UInt8))
 |[]=>some []
 | .lst e f xs::l=>if e=5 then(AF3 xs).bind fun b=>(AF4 l).map ((f,b)::·)else none
 |_=>none
theorem ACN:∀(xs:List V) (l:List UInt8),AF3 xs=some l→xs=bytesOf l
 |[],l,h=>by simp[AF3]at h;subst h;rfl
 |x::xs,l,h=>by
  unfold AF3 at h
  split at h
  ·rename_i e;exact absurd e (by simp)
  ·rename_i n l' e
   cases e
   split at h
   ·rename_i hn
    obtain⟨l',h1,rfl⟩:=Option.map_eq_some_iff.1 h
    rw[ACN xs l' h1]
    simp[bytesOf,Nat.mod_eq_of_lt hn]
   ·cases h
  ·cases h
theorem ACO:∀(xs:List V) (L:List (Fl×List UInt8)),AF4 xs=some L→xs=parts L
 |[],l,h=>by simp[AF4]at h;subst h;rfl
 |x::xs,l,h=>by
  unfold AF4 at h
  split at h
  ·rename_i e;exact absurd e (by simp)
  ·rename_i e f ys l' he
   cases he
   split at h
   ·rename_i hn
    subst hn
    obtain⟨b,h1,h2⟩:=Option.bind_eq_some_iff.1 h
    obtain⟨l',h3,rfl⟩:=Option.map_eq_some_iff.1 h2
    rw[ACO xs l' h3,ACN ys b h1]
    simp[parts];rfl
   ·cases h
  ·cases h
def APz:List V→List V→Option (V×List V)
 |[.lst e fl xs],[]=>if e=172 then(AF4 xs).bind fun L=>if L.length<2147483648∧(flat L).length<2147480000∧0<(flat L).length then some (BR (Xd (flat L)),[])else none else none
 |_,_=>none
def oq (f:FuncId) (vs h:List V):Option (V×List V):=
 bif Nat.beq f 176 then APz vs h else none
theorem AP0 {a b:Nat} (h:¬a=b):Nat.beq a b=false:=by
 cases e:Nat.beq a b with
 |false=>rfl
 |true=>exact absurd (Nat.eq_of_beq_eq_true e) h
theorem AP1 (f:FuncId) (vs h:List V) (r:V×List V) (e:oq f vs h=some r):Cl f vs h=some r:=by
 unfold oq at e
 by_cases h1:f=176
 ·subst h1
  rw[show Nat.beq 176 176=true from rfl,cond_true]at e
  unfold APz at e
  split at e
  ·rename_i a fl xs
   split at e
   ·rename_i ha
    subst ha
    obtain⟨L,h2,h3⟩:=Option.bind_eq_some_iff.1 e
    split at h3
    ·rename_i hc
     rw[←Option.some.inj h3,ACO xs L h2]
     exact Xf L hc.1 fl hc.2.1 hc.2.2
    ·cases h3
   ·cases e
  ·cases e
 ·rw[AP0 h1]at e
  cases e
end
section
open Go AM
def AKz:List V→List V→Option (V×List V)
 |[.str s],[]=>if s.length<2147480000 then some (.str (Xd s),[])else none
 |_,_=>none
def oq2 (f:FuncId) (vs h:List V):Option (V×List V):=
 bif Nat.beq f 151 then AKz vs h else oq f vs h
theorem Bf (f:FuncId) (vs h:List V) (r:V×List V) (e:oq2 f vs h=some r):Cl f vs h=some r:=by
 unfold oq2 at e
 by_cases h1:f=151
 ·subst h1
  rw[show Nat.beq 151 151=true from rfl,cond_true]at e
  unfold AKz at e
  split at e
  ·rename_i s
   split at e
   ·rename_i hc
    rw[←Option.some.inj e]
    exact AFI hc
   ·cases e
  ·cases e
 ·rw[AP0 h1]at e
  exact AP1 f vs h r e
end
section
open Go AM
structure Ent where
 f:FuncId
 vs:List V
 h:List V
 r:V×List V
def Ent.ok (e:Ent):Prop:=Cl e.f e.vs e.h=some e.r
def lkE (T:List Ent) (Q:FuncId→List V→List V→Option (V×List V)) (f:FuncId) (vs h:List V):Option (V×List V):=
 match T.find? fun e=>Nat.beq e.f f&&IE e.vs vs&&IE e.h h with
 |some e=>some e.r
 |none=>Q f vs h
theorem Bg {T:List Ent} {Q:FuncId→List V→List V→Option (V×List V)} (hT:∀e∈T,e.ok) (hQ:∀f vs h r,Q f vs h=some r→Cl f vs h=some r) (f:FuncId) (vs h:List V) (r:V×List V) (hr:lkE T Q f vs h=some r):Cl f vs h=some r:=by
 unfold lkE at hr
 split at hr
 ·rename_i e he
  have h1:=List.find?_some he
  have h2:=hT e (List.mem_of_find?_eq_some he)
  simp only[Bool.and_eq_true]at h1
  obtain⟨⟨h3,h4⟩,h5⟩:=h1
  rw[←Option.some.inj hr,←Nat.eq_of_beq_eq_true h3,←Ez _ _ h4,←Ez _ _ h5]
  exact h2
 ·exact hQ _ _ _ _ hr
def by8 (l:List Int):List V:=l.map (V.int .u8)
def T0:List Ent:=[]
theorem AK0:∀e∈T0,e.ok:=by intro e he;cases he
def T1:List Ent:=⟨11,[.agg 23 [.int .i64 2,.lst 96 .sh [.agg 95 [.int .i64 0,.int .i64 1,.int .i64 5]]],.agg 25 [.str [115,115,115,112],.int .i64 0,.int .i64 3],.int .i64 1,.int .i64 0],[.agg 23 [.int .i64 2,.lst 96 .sh [.agg 95 [.int .i64 0,.int .i64 1,.int .i64 5]]]],(.tup [.ref 3 [] 103,.int .i64 0],[.agg 23 [.int .i64 2,.lst 96 .sh [.agg 95 [.int .i64 0,.int .i64 1,.int .i64 5]]],.agg 23 [.int .i64 2,.lst 96 .sh [.agg 95 [.int .i64 0,.int .i64 1,.int .i64 5]]],.agg 25 [.str [115,115,115,112],.int .i64 0,.int .i64 3],.agg 102 [.agg 23 [.int .i64 2,.lst 96 .sh [.agg 95 [.int .i64 0,.int .i64 1,.int .i64 5]]],.agg 25 [.str [115,115,115,112],.int .i64 0,.int .i64 3],.int .i64 1,.int .i64 0,.int .i64 0,.lst 86 .nil [],.lst 86 .own [.agg 85 [.int .i64 0,.int .i64 0,.bool true,.bool false,.int .i64 0],.agg 85 [.int .i64 1,.int .i64 (-1),.bool true,.bool false,.int .i64 0]],.bool false]])⟩::T0
theorem AK1:∀e∈T1,e.ok:=List.forall_mem_cons.2 ⟨(Az (Bg AK0 Bf) 400).1 _ _ _ _ (by kernel_rfl),AK0⟩
def T2:List Ent:=⟨64,[.lst 86 .sh [.agg 85 [.int .i64 0,.int .i64 0,.bool true,.bool false,.int .i64 0],.agg 85 [.int .i64 1,.int .i64 (-1),.bool true,.bool false,.int .i64 0]]],[],(.lst 9 .sh [.str [0,0,1,0,0],.str [1,1,1,0,0]],[])⟩::T1
theorem AK2:∀e∈T2,e.ok:=List.forall_mem_cons.2 ⟨(Az (Bg AK1 Bf) 400).1 _ _ _ _ (by kernel_rfl),AK1⟩
def T3:List Ent:=⟨83,[.lst 86 .sh [.agg 85 [.int .i64 0,.int .i64 0,.bool true,.bool false,.int .i64 0],.agg 85 [.int .i64 1,.int .i64 (-1),.bool true,.bool false,.int .i64 0]]],[],(.agg 65 (by8 [150,43,153,188,10,22,125,174,31,250,120,209,18,105,255,193,73,34,213,37,202,22,214,2,72,242,199,202,168,105,70,3]),[])⟩::T2
theorem AK3:∀e∈T3,e.ok:=List.forall_mem_cons.2 ⟨(Az (Bg AK2 Bf) 400).1 _ _ _ _ (by kernel_rfl),AK2⟩
def T4:List Ent:=⟨28,[.ref 3 [] 103],[.agg 23 [.int .i64 2,.lst 96 .sh [.agg 95 [.int .i64 0,.int .i64 1,.int .i64 5]]],.agg 23 [.int .i64 2,.lst 96 .sh [.agg 95 [.int .i64 0,.int .i64 1,.int .i64 5]]],.agg 25 [.str [115,115,115,112],.int .i64 0,.int .i64 3],.agg 102 [.agg 23 [.int .i64 2,.lst 96 .sh [.agg 95 [.int .i64 0,.int .i64 1,.int .i64 5]]],.agg 25 [.str [115,115,115,112],.int .i64 0,.int .i64 3],.int .i64 1,.int .i64 0,.int .i64 0,.lst 86 .nil [],.lst 86 .own [.agg 85 [.int .i64 0,.int .i64 0,.bool true,.bool false,.int .i64 0],.agg 85 [.int .i64 1,.int .i64 (-1),.bool true,.bool false,.int .i64 0]],.bool false]],(.agg 65 (by8 [150,43,153,188,10,22,125,174,31,250,120,209,18,105,255,193,73,34,213,37,202,22,214,2,72,242,199,202,168,105,70,3]),[.agg 23 [.int .i64 2,.lst 96 .sh [.agg 95 [.int .i64 0,.int .i64 1,.int .i64 5]]],.agg 23 [.int .i64 2,.lst 96 .sh [.agg 95 [.int .i64 0,.int .i64 1,.int .i64 5]]],.agg 25 [.str [115,115,115,112],.int .i64 0,.int .i64 3],.agg 102 [.agg 23 [.int .i64 2,.lst 96 .sh [.agg 95 [.int .i64 0,.int .i64 1,.int .i64 5]]],.agg 25 [.str [115,115,115,112],.int .i64 0,.int .i64 3],.int .i64 1,.int .i64 0,.int .i64 0,.lst 86 .nil [],.lst 86 .own [.agg 85 [.int .i64 0,.int .i64 0,.bool true,.bool false,.int .i64 0],.agg 85 [.int .i64 1,.int .i64 (-1),.bool true,.bool false,.int .i64 0]],.bool false]])⟩::T3
theorem AK4:∀e∈T4,e.ok:=List.forall_mem_cons.2 ⟨(Az (Bg AK3 Bf) 400).1 _ _ _ _ (by kernel_rfl),AK3⟩
def T5:List Ent:=⟨55,[.str [115,115,115,112],.lst 152 .sh [],.int .i64 0],[],(.tup [.int .i64 0,.bool false,.int .i64 0],[])⟩::T4
theorem AK5:∀e∈T5,e.ok:=List.forall_mem_cons.2 ⟨(Az (Bg AK4 Bf) 400).1 _ _ _ _ (by kernel_rfl),AK4⟩
def T6:List Ent:=⟨55,[.str [115,115,115,112],.lst 152 .sh [],.int .i64 1],[],(.tup [.int .i64 0,.bool false,.int .i64 0],[])⟩::T5
theorem AK6:∀e∈T6,e.ok:=List.forall_mem_cons.2 ⟨(Az (Bg AK5 Bf) 400).1 _ _ _ _ (by kernel_rfl),AK5⟩
def T7:List Ent:=⟨53,[.lst 86 .sh [.agg 85 [.int .i64 0,.int .i64 0,.bool true,.bool false,.int .i64 0],.agg 85 [.int .i64 1,.int .i64 (-1),.bool true,.bool false,.int .i64 0]],.clo 54 [.ref 5 [] 29,.ref 7 [] 39,.ref 9 [] 35]],[.agg 23 [.int .i64 2,.lst 96 .sh [.agg 95 [.int .i64 0,.int .i64 1,.int .i64 5]]],.agg 23 [.int .i64 2,.lst 96 .sh [.agg 95 [.int .i64 0,.int .i64 1,.int .i64 5]]],.agg 25 [.str [115,115,115,112],.int .i64 0,.int .i64 3],.agg 102 [.agg 23 [.int .i64 2,.lst 96 .sh [.agg 95 [.int .i64 0,.int .i64 1,.int .i64 5]]],.agg 25 [.str [115,115,115,112],.int .i64 0,.int .i64 3],.int .i64 1,.int .i64 0,.int .i64 0,.lst 86 .nil [],.lst 86 .own [.agg 85 [.int .i64 0,.int .i64 0,.bool true,.bool false,.int .i64 0],.agg 85 [.int .i64 1,.int .i64 (-1),.bool true,.bool false,.int .i64 0]],.bool false],.agg 65 (by8 [150,43,153,188,10,22,125,174,31,250,120,209,18,105,255,193,73,34,213,37,202,22,214,2,72,242,199,202,168,105,70,3]),.ref 3 [] 103,.int .i64 0,.lst 152 .sh [],.agg 43 [.int .i64 0,.str [],.lst 9 .nil []],.lst 86 .nil [],.lst 86 .nil [],.lst 152 .nil []],(.int .i64 0,[.agg 23 [.int .i64 2,.lst 96 .sh [.agg 95 [.int .i64 0,.int .i64 1,.int .i64 5]]],.agg 23 [.int .i64 2,.lst 96 .sh [.agg 95 [.int .i64 0,.int .i64 1,.int .i64 5]]],.agg 25 [.str [115,115,115,112],.int .i64 0,.int .i64 3],.agg 102 [.agg 23 [.int .i64 2,.lst 96 .sh [.agg 95 [.int .i64 0,.int .i64 1,.int .i64 5]]],.agg 25 [.str [115,115,115,112],.int .i64 0,.int .i64 3],.int .i64 1,.int .i64 0,.int .i64 0,.lst 86 .nil [],.lst 86 .own [.agg 85 [.int .i64 0,.int .i64 0,.bool true,.bool false,.int .i64 0],.agg 85 [.int .i64 1,.int .i64 (-1),.bool true,.bool false,.int .i64 0]],.bool false],.agg 65 (by8 [150,43,153,188,10,22,125,174,31,250,120,209,18,105,255,193,73,34,213,37,202,22,214,2,72,242,199,202,168,105,70,3]),.ref 3 [] 103,.int .i64 0,.lst 152 .sh [],.agg 43 [.int .i64 0,.str [],.lst 9 .nil []],.lst 86 .own [.agg 85 [.int .i64 0,.int .i64 0,.bool true,.bool false,.int .i64 0],.agg 85 [.int .i64 1,.int .i64 (-1),.bool true,.bool false,.int .i64 0]],.lst 86 .nil [],.lst 152 .nil []])⟩::T6
theorem AK7:∀e∈T7,e.ok:=List.forall_mem_cons.2 ⟨(Az (Bg AK6 Bf) 400).1 _ _ _ _ (by kernel_rfl),AK6⟩
def T8:List Ent:=⟨57,[.agg 23 [.int .i64 2,.lst 96 .sh [.agg 95 [.int .i64 0,.int .i64 1,.int .i64 5]]],.agg 25 [.str [115,115,115,112],.int .i64 0,.int .i64 3],.int .i64 0,.agg 85 [.int .i64 0,.int .i64 0,.bool true,.bool false,.int .i64 0]],[],(.tup [.agg 85 [.int .i64 0,.int .i64 0,.bool false,.bool false,.int .i64 0],.lst 152 .sh [.agg 151 [.int .i64 0,.int .i64 1,.int .i64 5]],.int .i64 0],[])⟩::T7
theorem AK8:∀e∈T8,e.ok:=List.forall_mem_cons.2 ⟨(Az (Bg AK7 Bf) 400).1 _ _ _ _ (by kernel_rfl),AK7⟩
def T9:List Ent:=⟨57,[.agg 23 [.int .i64 2,.lst 96 .sh [.agg 95 [.int .i64 0,.int .i64 1,.int .i64 5]]],.agg 25 [.str [115,115,115,112],.int .i64 0,.int .i64 3],.int .i64 0,.agg 85 [.int .i64 1,.int .i64 (-1),.bool true,.bool false,.int .i64 0]],[],(.tup [.agg 85 [.int .i64 1,.int .i64 (-1),.bool false,.bool false,.int .i64 0],.lst 152 .sh [],.int .i64 0],[])⟩::T8
theorem AK9:∀e∈T9,e.ok:=List.forall_mem_cons.2 ⟨(Az (Bg AK8 Bf) 400).1 _ _ _ _ (by kernel_rfl),AK8⟩
def T10:List Ent:=⟨53,[.lst 86 .sh [.agg 85 [.int .i64 0,.int .i64 0,.bool true,.bool false,.int .i64 0],.agg 85 [.int .i64 1,.int .i64 (-1),.bool true,.bool false,.int .i64 0]],.clo 56 [.ref 5 [] 29,.ref 6 [] 3,.ref 10 [] 35,.ref 11 [] 39]],[.agg 23 [.int .i64 2,.lst 96 .sh [.agg 95 [.int .i64 0,.int .i64 1,.int .i64 5]]],.agg 23 [.int .i64 2,.lst 96 .sh [.agg 95 [.int .i64 0,.int .i64 1,.int .i64 5]]],.agg 25 [.str [115,115,115,112],.int .i64 0,.int .i64 3],.agg 102 [.agg 23 [.int .i64 2,.lst 96 .sh [.agg 95 [.int .i64 0,.int .i64 1,.int .i64 5]]],.agg 25 [.str [115,115,115,112],.int .i64 0,.int .i64 3],.int .i64 1,.int .i64 0,.int .i64 0,.lst 86 .nil [],.lst 86 .own [.agg 85 [.int .i64 0,.int .i64 0,.bool true,.bool false,.int .i64 0],.agg 85 [.int .i64 1,.int .i64 (-1),.bool true,.bool false,.int .i64 0]],.bool false],.agg 65 (by8 [150,43,153,188,10,22,125,174,31,250,120,209,18,105,255,193,73,34,213,37,202,22,214,2,72,242,199,202,168,105,70,3]),.ref 3 [] 103,.int .i64 0,.lst 152 .sh [],.agg 43 [.int .i64 0,.str [],.lst 9 .nil []],.lst 86 .own [.agg 85 [.int .i64 0,.int .i64 0,.bool true,.bool false,.int .i64 0],.agg 85 [.int .i64 1,.int .i64 (-1),.bool true,.bool false,.int .i64 0]],.lst 86 .nil [],.lst 152 .nil []],(.int .i64 0,[.agg 23 [.int .i64 2,.lst 96 .sh [.agg 95 [.int .i64 0,.int .i64 1,.int .i64 5]]],.agg 23 [.int .i64 2,.lst 96 .sh [.agg 95 [.int .i64 0,.int .i64 1,.int .i64 5]]],.agg 25 [.str [115,115,115,112],.int .i64 0,.int .i64 3],.agg 102 [.agg 23 [.int .i64 2,.lst 96 .sh [.agg 95 [.int .i64 0,.int .i64 1,.int .i64 5]]],.agg 25 [.str [115,115,115,112],.int .i64 0,.int .i64 3],.int .i64 1,.int .i64 0,.int .i64 0,.lst 86 .nil [],.lst 86 .own [.agg 85 [.int .i64 0,.int .i64 0,.bool true,.bool false,.int .i64 0],.agg 85 [.int .i64 1,.int .i64 (-1),.bool true,.bool false,.int .i64 0]],.bool false],.agg 65 (by8 [150,43,153,188,10,22,125,174,31,250,120,209,18,105,255,193,73,34,213,37,202,22,214,2,72,242,199,202,168,105,70,3]),.ref 3 [] 103,.int .i64 0,.lst 152 .sh [],.agg 43 [.int .i64 0,.str [],.lst 9 .nil []],.lst 86 .own [.agg 85 [.int .i64 0,.int .i64 0,.bool true,.bool false,.int .i64 0],.agg 85 [.int .i64 1,.int .i64 (-1),.bool true,.bool false,.int .i64 0]],.lst 86 .own [.agg 85 [.int .i64 0,.int .i64 0,.bool false,.bool false,.int .i64 0],.agg 85 [.int .i64 1,.int .i64 (-1),.bool false,.bool false,.int .i64 0]],.lst 152 .own [.agg 151 [.int .i64 0,.int .i64 1,.int .i64 5]]])⟩::T9
theorem AF5:∀e∈T10,e.ok:=List.forall_mem_cons.2 ⟨(Az (Bg AK9 Bf) 400).1 _ _ _ _ (by kernel_rfl),AK9⟩
def T11:List Ent:=⟨58,[.int .i64 1,.lst 152 .sh [.agg 151 [.int .i64 0,.int .i64 1,.int .i64 5]]],[],(.tup [.lst 39 .sh [.lst 152 .sh [.agg 151 [.int .i64 0,.int .i64 1,.int .i64 5]]],.int .i64 0],[])⟩::T10
theorem AF6:∀e∈T11,e.ok:=List.forall_mem_cons.2 ⟨(Az (Bg AF5 Bf) 400).1 _ _ _ _ (by kernel_rfl),AF5⟩
def T12:List Ent:=⟨64,[.lst 86 .sh [.agg 85 [.int .i64 0,.int .i64 0,.bool false,.bool false,.int .i64 0],.agg 85 [.int .i64 1,.int .i64 (-1),.bool false,.bool false,.int .i64 0]]],[],(.lst 9 .sh [.str [0,0,0,0,0],.str [1,1,0,0,0]],[])⟩::T11
theorem AF7:∀e∈T12,e.ok:=List.forall_mem_cons.2 ⟨(Az (Bg AF6 Bf) 400).1 _ _ _ _ (by kernel_rfl),AF6⟩
def T13:List Ent:=⟨83,[.lst 86 .sh [.agg 85 [.int .i64 0,.int .i64 0,.bool false,.bool false,.int .i64 0],.agg 85 [.int .i64 1,.int .i64 (-1),.bool false,.bool false,.int .i64 0]]],[],(.agg 65 (by8 [122,108,79,21,176,240,237,199,155,2,210,19,58,124,119,200,225,82,232,215,247,145,243,145,125,218,178,100,224,26,96,18]),[])⟩::T12
theorem AF8:∀e∈T13,e.ok:=List.forall_mem_cons.2 ⟨(Az (Bg AF7 Bf) 400).1 _ _ _ _ (by kernel_rfl),AF7⟩
def T14:List Ent:=⟨59,[.int .i64 0,.int .i64 0,.lst 86 .sh [.agg 85 [.int .i64 0,.int .i64 0,.bool false,.bool false,.int .i64 0],.agg 85 [.int .i64 1,.int .i64 (-1),.bool false,.bool false,.int .i64 0]],.lst 39 .sh [.lst 152 .sh [.agg 151 [.int .i64 0,.int .i64 1,.int .i64 5]]]],[],(.tup [.agg 76 [.int .i64 0,.int .i64 0,.agg 65 (by8 [122,108,79,21,176,240,237,199,155,2,210,19,58,124,119,200,225,82,232,215,247,145,243,145,125,218,178,100,224,26,96,18]),.lst 66 .sh [.agg 65 (by8 [42,237,57,191,39,46,253,156,91,120,169,228,39,137,60,170,135,93,169,73,212,32,122,104,196,31,46,52,187,254,72,237])]],.int .i64 0],[])⟩::T13
theorem AF9:∀e∈T14,e.ok:=List.forall_mem_cons.2 ⟨(Az (Bg AF8 Bf) 400).1 _ _ _ _ (by kernel_rfl),AF8⟩
def T15:List Ent:=⟨60,[.agg 76 [.int .i64 0,.int .i64 0,.agg 65 (by8 [122,108,79,21,176,240,237,199,155,2,210,19,58,124,119,200,225,82,232,215,247,145,243,145,125,218,178,100,224,26,96,18]),.lst 66 .sh [.agg 65 (by8 [42,237,57,191,39,46,253,156,91,120,169,228,39,137,60,170,135,93,169,73,212,32,122,104,196,31,46,52,187,254,72,237])]]],[],(.tup [.str [67,0,0,122,108,79,21,176,240,237,199,155,2,210,19,58,124,119,200,225,82,232,215,247,145,243,145,125,218,178,100,224,26,96,18,1,42,237,57,191,39,46,253,156,91,120,169,228,39,137,60,170,135,93,169,73,212,32,122,104,196,31,46,52,187,254,72,237],.int .i64 0],[])⟩::T14
theorem AGA:∀e∈T15,e.ok:=List.forall_mem_cons.2 ⟨(Az (Bg AF9 Bf) 400).1 _ _ _ _ (by kernel_rfl),AF9⟩
def T16:List Ent:=⟨61,[.lst 152 .sh [.agg 151 [.int .i64 0,.int .i64 1,.int .i64 5]]],[],(.tup [.str [1,3,0,1,10],.int .i64 0],[])⟩::T15
theorem AGB:∀e∈T16,e.ok:=List.forall_mem_cons.2 ⟨(Az (Bg AGA Bf) 400).1 _ _ _ _ (by kernel_rfl),AGA⟩
def T17:List Ent:=⟨17,[.ref 3 [] 103,.int .i64 0,.lst 152 .sh []],[.agg 23 [.int .i64 2,.lst 96 .sh [.agg 95 [.int .i64 0,.int .i64 1,.int .i64 5]]],.agg 23 [.int .i64 2,.lst 96 .sh [.agg 95 [.int .i64 0,.int .i64 1,.int .i64 5]]],.agg 25 [.str [115,115,115,112],.int .i64 0,.int .i64 3],.agg 102 [.agg 23 [.int .i64 2,.lst 96 .sh [.agg 95 [.int .i64 0,.int .i64 1,.int .i64 5]]],.agg 25 [.str [115,115,115,112],.int .i64 0,.int .i64 3],.int .i64 1,.int .i64 0,.int .i64 0,.lst 86 .nil [],.lst 86 .own [.agg 85 [.int .i64 0,.int .i64 0,.bool true,.bool false,.int .i64 0],.agg 85 [.int .i64 1,.int .i64 (-1),.bool true,.bool false,.int .i64 0]],.bool false],.agg 65 (by8 [150,43,153,188,10,22,125,174,31,250,120,209,18,105,255,193,73,34,213,37,202,22,214,2,72,242,199,202,168,105,70,3])],(.agg 43 [.int .i64 0,.str [67,0,0,122,108,79,21,176,240,237,199,155,2,210,19,58,124,119,200,225,82,232,215,247,145,243,145,125,218,178,100,224,26,96,18,1,42,237,57,191,39,46,253,156,91,120,169,228,39,137,60,170,135,93,169,73,212,32,122,104,196,31,46,52,187,254,72,237],.lst 9 .sh [.str [1,3,0,1,10]]],[.agg 23 [.int .i64 2,.lst 96 .sh [.agg 95 [.int .i64 0,.int .i64 1,.int .i64 5]]],.agg 23 [.int .i64 2,.lst 96 .sh [.agg 95 [.int .i64 0,.int .i64 1,.int .i64 5]]],.agg 25 [.str [115,115,115,112],.int .i64 0,.int .i64 3],.agg 102 [.agg 23 [.int .i64 2,.lst 96 .sh [.agg 95 [.int .i64 0,.int .i64 1,.int .i64 5]]],.agg 25 [.str [115,115,115,112],.int .i64 0,.int .i64 3],.int .i64 1,.int .i64 0,.int .i64 1,.lst 86 .sh [.agg 85 [.int .i64 0,.int .i64 0,.bool true,.bool false,.int .i64 0],.agg 85 [.int .i64 1,.int .i64 (-1),.bool true,.bool false,.int .i64 0]],.lst 86 .sh [.agg 85 [.int .i64 0,.int .i64 0,.bool false,.bool false,.int .i64 0],.agg 85 [.int .i64 1,.int .i64 (-1),.bool false,.bool false,.int .i64 0]],.bool true],.agg 65 (by8 [150,43,153,188,10,22,125,174,31,250,120,209,18,105,255,193,73,34,213,37,202,22,214,2,72,242,199,202,168,105,70,3])])⟩::T16
theorem AGC:∀e∈T17,e.ok:=List.forall_mem_cons.2 ⟨(Az (Bg AGB Bf) 400).1 _ _ _ _ (by kernel_rfl),AGB⟩
def T18:List Ent:=⟨33,[.str [1,3,0,1,10]],[],(.tup [.lst 152 .sh [.agg 151 [.int .i64 0,.int .i64 1,.int .i64 5]],.int .i64 0],[])⟩::T17
theorem AGD:∀e∈T18,e.ok:=List.forall_mem_cons.2 ⟨(Az (Bg AGC Bf) 400).1 _ _ _ _ (by kernel_rfl),AGC⟩
def T19:List Ent:=⟨63,[.lst 9 .sh [.str [0,0,1,0,0],.str [1,1,1,0,0]],.int .i64 1],[],(.tup [.lst 66 .sh [.agg 65 (by8 [16,72,125,134,206,53,132,225,86,135,78,217,178,101,14,141,119,42,141,31,219,177,201,17,27,247,226,251,202,177,140,203])],.int .i64 0],[])⟩::T18
theorem AGE:∀e∈T19,e.ok:=List.forall_mem_cons.2 ⟨(Az (Bg AGD Bf) 400).1 _ _ _ _ (by kernel_rfl),AGD⟩
def T20:List Ent:=⟨63,[.lst 9 .sh [.str [0,0,0,0,0],.str [1,1,0,0,0]],.int .i64 1],[],(.tup [.lst 66 .sh [.agg 65 (by8 [176,246,106,220,131,100,21,134,101,104,102,129,63,217,221,11,142,187,99,121,96,117,102,27,164,93,26,168,8,158,29,68])],.int .i64 0],[])⟩::T19
theorem AGF:∀e∈T20,e.ok:=List.forall_mem_cons.2 ⟨(Az (Bg AGE Bf) 400).1 _ _ _ _ (by kernel_rfl),AGE⟩
def T21:List Ent:=⟨18,[.ref 3 [] 103,.int .i64 1],[.agg 23 [.int .i64 2,.lst 96 .sh [.agg 95 [.int .i64 0,.int .i64 1,.int .i64 5]]],.agg 23 [.int .i64 2,.lst 96 .sh [.agg 95 [.int .i64 0,.int .i64 1,.int .i64 5]]],.agg 25 [.str [115,115,115,112],.int .i64 0,.int .i64 3],.agg 102 [.agg 23 [.int .i64 2,.lst 96 .sh [.agg 95 [.int .i64 0,.int .i64 1,.int .i64 5]]],.agg 25 [.str [115,115,115,112],.int .i64 0,.int .i64 3],.int .i64 1,.int .i64 0,.int .i64 1,.lst 86 .sh [.agg 85 [.int .i64 0,.int .i64 0,.bool true,.bool false,.int .i64 0],.agg 85 [.int .i64 1,.int .i64 (-1),.bool true,.bool false,.int .i64 0]],.lst 86 .sh [.agg 85 [.int .i64 0,.int .i64 0,.bool false,.bool false,.int .i64 0],.agg 85 [.int .i64 1,.int .i64 (-1),.bool false,.bool false,.int .i64 0]],.bool true],.agg 65 (by8 [150,43,153,188,10,22,125,174,31,250,120,209,18,105,255,193,73,34,213,37,202,22,214,2,72,242,199,202,168,105,70,3]),.agg 43 [.int .i64 0,.str [67,0,0,122,108,79,21,176,240,237,199,155,2,210,19,58,124,119,200,225,82,232,215,247,145,243,145,125,218,178,100,224,26,96,18,1,42,237,57,191,39,46,253,156,91,120,169,228,39,137,60,170,135,93,169,73,212,32,122,104,196,31,46,52,187,254,72,237],.lst 9 .sh [.str [1,3,0,1,10]]]],(.tup [.agg 50 [.int .i64 1,.str [1,1,1,0,0],.str [1,1,0,0,0],.lst 66 .sh [.agg 65 (by8 [16,72,125,134,206,53,132,225,86,135,78,217,178,101,14,141,119,42,141,31,219,177,201,17,27,247,226,251,202,177,140,203])],.lst 66 .sh [.agg 65 (by8 [176,246,106,220,131,100,21,134,101,104,102,129,63,217,221,11,142,187,99,121,96,117,102,27,164,93,26,168,8,158,29,68])]],.int .i64 0],[.agg 23 [.int .i64 2,.lst 96 .sh [.agg 95 [.int .i64 0,.int .i64 1,.int .i64 5]]],.agg 23 [.int .i64 2,.lst 96 .sh [.agg 95 [.int .i64 0,.int .i64 1,.int .i64 5]]],.agg 25 [.str [115,115,115,112],.int .i64 0,.int .i64 3],.agg 102 [.agg 23 [.int .i64 2,.lst 96 .sh [.agg 95 [.int .i64 0,.int .i64 1,.int .i64 5]]],.agg 25 [.str [115,115,115,112],.int .i64 0,.int .i64 3],.int .i64 1,.int .i64 0,.int .i64 1,.lst 86 .sh [.agg 85 [.int .i64 0,.int .i64 0,.bool true,.bool false,.int .i64 0],.agg 85 [.int .i64 1,.int .i64 (-1),.bool true,.bool false,.int .i64 0]],.lst 86 .sh [.agg 85 [.int .i64 0,.int .i64 0,.bool false,.bool false,.int .i64 0],.agg 85 [.int .i64 1,.int .i64 (-1),.bool false,.bool false,.int .i64 0]],.bool true],.agg 65 (by8 [150,43,153,188,10,22,125,174,31,250,120,209,18,105,255,193,73,34,213,37,202,22,214,2,72,242,199,202,168,105,70,3]),.agg 43 [.int .i64 0,.str [67,0,0,122,108,79,21,176,240,237,199,155,2,210,19,58,124,119,200,225,82,232,215,247,145,243,145,125,218,178,100,224,26,96,18,1,42,237,57,191,39,46,253,156,91,120,169,228,39,137,60,170,135,93,169,73,212,32,122,104,196,31,46,52,187,254,72,237],.lst 9 .sh [.str [1,3,0,1,10]]]])⟩::T20
theorem AGG:∀e∈T21,e.ok:=List.forall_mem_cons.2 ⟨(Az (Bg AGF Bf) 400).1 _ _ _ _ (by kernel_rfl),AGF⟩
def T22:List Ent:=⟨35,[.agg 65 (by8 [150,43,153,188,10,22,125,174,31,250,120,209,18,105,255,193,73,34,213,37,202,22,214,2,72,242,199,202,168,105,70,3]),.int .i64 2,.int .i64 1,.str [1,1,1,0,0],.lst 66 .sh [.agg 65 (by8 [16,72,125,134,206,53,132,225,86,135,78,217,178,101,14,141,119,42,141,31,219,177,201,17,27,247,226,251,202,177,140,203])]],[],(.bool true,[])⟩::T21
theorem AGH:∀e∈T22,e.ok:=List.forall_mem_cons.2 ⟨(Az (Bg AGG Bf) 400).1 _ _ _ _ (by kernel_rfl),AGG⟩
def T23:List Ent:=⟨28,[.ref 3 [] 103],[.agg 23 [.int .i64 2,.lst 96 .sh [.agg 95 [.int .i64 0,.int .i64 1,.int .i64 5]]],.agg 23 [.int .i64 2,.lst 96 .sh [.agg 95 [.int .i64 0,.int .i64 1,.int .i64 5]]],.agg 25 [.str [115,115,115,112],.int .i64 0,.int .i64 3],.agg 102 [.agg 23 [.int .i64 2,.lst 96 .sh [.agg 95 [.int .i64 0,.int .i64 1,.int .i64 5]]],.agg 25 [.str [115,115,115,112],.int .i64 0,.int .i64 3],.int .i64 1,.int .i64 0,.int .i64 1,.lst 86 .sh [.agg 85 [.int .i64 0,.int .i64 0,.bool true,.bool false,.int .i64 0],.agg 85 [.int .i64 1,.int .i64 (-1),.bool true,.bool false,.int .i64 0]],.lst 86 .sh [.agg 85 [.int .i64 0,.int .i64 0,.bool false,.bool false,.int .i64 0],.agg 85 [.int .i64 1,.int .i64 (-1),.bool false,.bool false,.int .i64 0]],.bool true],.agg 65 (by8 [150,43,153,188,10,22,125,174,31,250,120,209,18,105,255,193,73,34,213,37,202,22,214,2,72,242,199,202,168,105,70,3]),.agg 43 [.int .i64 0,.str [67,0,0,122,108,79,21,176,240,237,199,155,2,210,19,58,124,119,200,225,82,232,215,247,145,243,145,125,218,178,100,224,26,96,18,1,42,237,57,191,39,46,253,156,91,120,169,228,39,137,60,170,135,93,169,73,212,32,122,104,196,31,46,52,187,254,72,237],.lst 9 .sh [.str [1,3,0,1,10]]],.row 0 []],(.agg 65 (by8 [122,108,79,21,176,240,237,199,155,2,210,19,58,124,119,200,225,82,232,215,247,145,243,145,125,218,178,100,224,26,96,18]),[.agg 23 [.int .i64 2,.lst 96 .sh [.agg 95 [.int .i64 0,.int .i64 1,.int .i64 5]]],.agg 23 [.int .i64 2,.lst 96 .sh [.agg 95 [.int .i64 0,.int .i64 1,.int .i64 5]]],.agg 25 [.str [115,115,115,112],.int .i64 0,.int .i64 3],.agg 102 [.agg 23 [.int .i64 2,.lst 96 .sh [.agg 95 [.int .i64 0,.int .i64 1,.int .i64 5]]],.agg 25 [.str [115,115,115,112],.int .i64 0,.int .i64 3],.int .i64 1,.int .i64 0,.int .i64 1,.lst 86 .sh [.agg 85 [.int .i64 0,.int .i64 0,.bool true,.bool false,.int .i64 0],.agg 85 [.int .i64 1,.int .i64 (-1),.bool true,.bool false,.int .i64 0]],.lst 86 .sh [.agg 85 [.int .i64 0,.int .i64 0,.bool false,.bool false,.int .i64 0],.agg 85 [.int .i64 1,.int .i64 (-1),.bool false,.bool false,.int .i64 0]],.bool true],.agg 65 (by8 [150,43,153,188,10,22,125,174,31,250,120,209,18,105,255,193,73,34,213,37,202,22,214,2,72,242,199,202,168,105,70,3]),.agg 43 [.int .i64 0,.str [67,0,0,122,108,79,21,176,240,237,199,155,2,210,19,58,124,119,200,225,82,232,215,247,145,243,145,125,218,178,100,224,26,96,18,1,42,237,57,191,39,46,253,156,91,120,169,228,39,137,60,170,135,93,169,73,212,32,122,104,196,31,46,52,187,254,72,237],.lst 9 .sh [.str [1,3,0,1,10]]],.row 0 []])⟩::T22
theorem AGI:∀e∈T23,e.ok:=List.forall_mem_cons.2 ⟨(Az (Bg AGH Bf) 400).1 _ _ _ _ (by kernel_rfl),AGH⟩
def T24:List Ent:=⟨35,[.agg 65 (by8 [122,108,79,21,176,240,237,199,155,2,210,19,58,124,119,200,225,82,232,215,247,145,243,145,125,218,178,100,224,26,96,18]),.int .i64 2,.int .i64 1,.str [1,1,0,0,0],.lst 66 .sh [.agg 65 (by8 [176,246,106,220,131,100,21,134,101,104,102,129,63,217,221,11,142,187,99,121,96,117,102,27,164,93,26,168,8,158,29,68])]],[],(.bool true,[])⟩::T23
theorem AGJ:∀e∈T24,e.ok:=List.forall_mem_cons.2 ⟨(Az (Bg AGI Bf) 400).1 _ _ _ _ (by kernel_rfl),AGI⟩
def T25:List Ent:=⟨21,[.ref 3 [] 103],[.agg 23 [.int .i64 2,.lst 96 .sh [.agg 95 [.int .i64 0,.int .i64 1,.int .i64 5]]],.agg 23 [.int .i64 2,.lst 96 .sh [.agg 95 [.int .i64 0,.int .i64 1,.int .i64 5]]],.agg 25 [.str [115,115,115,112],.int .i64 0,.int .i64 3],.agg 102 [.agg 23 [.int .i64 2,.lst 96 .sh [.agg 95 [.int .i64 0,.int .i64 1,.int .i64 5]]],.agg 25 [.str [115,115,115,112],.int .i64 0,.int .i64 3],.int .i64 1,.int .i64 0,.int .i64 1,.lst 86 .sh [.agg 85 [.int .i64 0,.int .i64 0,.bool true,.bool false,.int .i64 0],.agg 85 [.int .i64 1,.int .i64 (-1),.bool true,.bool false,.int .i64 0]],.lst 86 .sh [.agg 85 [.int .i64 0,.int .i64 0,.bool false,.bool false,.int .i64 0],.agg 85 [.int .i64 1,.int .i64 (-1),.bool false,.bool false,.int .i64 0]],.bool true],.agg 65 (by8 [150,43,153,188,10,22,125,174,31,250,120,209,18,105,255,193,73,34,213,37,202,22,214,2,72,242,199,202,168,105,70,3]),.agg 43 [.int .i64 0,.str [67,0,0,122,108,79,21,176,240,237,199,155,2,210,19,58,124,119,200,225,82,232,215,247,145,243,145,125,218,178,100,224,26,96,18,1,42,237,57,191,39,46,253,156,91,120,169,228,39,137,60,170,135,93,169,73,212,32,122,104,196,31,46,52,187,254,72,237],.lst 9 .sh [.str [1,3,0,1,10]]],.agg 50 [.int .i64 1,.str [1,1,1,0,0],.str [1,1,0,0,0],.lst 66 .sh [.agg 65 (by8 [16,72,125,134,206,53,132,225,86,135,78,217,178,101,14,141,119,42,141,31,219,177,201,17,27,247,226,251,202,177,140,203])],.lst 66 .sh [.agg 65 (by8 [176,246,106,220,131,100,21,134,101,104,102,129,63,217,221,11,142,187,99,121,96,117,102,27,164,93,26,168,8,158,29,68])]]],(.str [83,1,2,5,0,0,0,0,0,5,1,1,0,0,0],[.agg 23 [.int .i64 2,.lst 96 .sh [.agg 95 [.int .i64 0,.int .i64 1,.int .i64 5]]],.agg 23 [.int .i64 2,.lst 96 .sh [.agg 95 [.int .i64 0,.int .i64 1,.int .i64 5]]],.agg 25 [.str [115,115,115,112],.int .i64 0,.int .i64 3],.agg 102 [.agg 23 [.int .i64 2,.lst 96 .sh [.agg 95 [.int .i64 0,.int .i64 1,.int .i64 5]]],.agg 25 [.str [115,115,115,112],.int .i64 0,.int .i64 3],.int .i64 1,.int .i64 0,.int .i64 1,.lst 86 .sh [.agg 85 [.int .i64 0,.int .i64 0,.bool true,.bool false,.int .i64 0],.agg 85 [.int .i64 1,.int .i64 (-1),.bool true,.bool false,.int .i64 0]],.lst 86 .sh [.agg 85 [.int .i64 0,.int .i64 0,.bool false,.bool false,.int .i64 0],.agg 85 [.int .i64 1,.int .i64 (-1),.bool false,.bool false,.int .i64 0]],.bool true],.agg 65 (by8 [150,43,153,188,10,22,125,174,31,250,120,209,18,105,255,193,73,34,213,37,202,22,214,2,72,242,199,202,168,105,70,3]),.agg 43 [.int .i64 0,.str [67,0,0,122,108,79,21,176,240,237,199,155,2,210,19,58,124,119,200,225,82,232,215,247,145,243,145,125,218,178,100,224,26,96,18,1,42,237,57,191,39,46,253,156,91,120,169,228,39,137,60,170,135,93,169,73,212,32,122,104,196,31,46,52,187,254,72,237],.lst 9 .sh [.str [1,3,0,1,10]]],.agg 50 [.int .i64 1,.str [1,1,1,0,0],.str [1,1,0,0,0],.lst 66 .sh [.agg 65 (by8 [16,72,125,134,206,53,132,225,86,135,78,217,178,101,14,141,119,42,141,31,219,177,201,17,27,247,226,251,202,177,140,203])],.lst 66 .sh [.agg 65 (by8 [176,246,106,220,131,100,21,134,101,104,102,129,63,217,221,11,142,187,99,121,96,117,102,27,164,93,26,168,8,158,29,68])]]])⟩::T24
theorem AGK:∀e∈T25,e.ok:=List.forall_mem_cons.2 ⟨(Az (Bg AGJ Bf) 400).1 _ _ _ _ (by kernel_rfl),AGJ⟩
def T26:List Ent:=⟨24,[.ref 3 [] 103,.str [83,1,2,5,0,0,0,0,0,5,1,1,0,0,0]],[.agg 23 [.int .i64 2,.lst 96 .sh [.agg 95 [.int .i64 0,.int .i64 1,.int .i64 5]]],.agg 23 [.int .i64 2,.lst 96 .sh [.agg 95 [.int .i64 0,.int .i64 1,.int .i64 5]]],.agg 25 [.str [115,115,115,112],.int .i64 0,.int .i64 3],.agg 102 [.agg 23 [.int .i64 2,.lst 96 .sh [.agg 95 [.int .i64 0,.int .i64 1,.int .i64 5]]],.agg 25 [.str [115,115,115,112],.int .i64 0,.int .i64 3],.int .i64 1,.int .i64 0,.int .i64 1,.lst 86 .sh [.agg 85 [.int .i64 0,.int .i64 0,.bool true,.bool false,.int .i64 0],.agg 85 [.int .i64 1,.int .i64 (-1),.bool true,.bool false,.int .i64 0]],.lst 86 .sh [.agg 85 [.int .i64 0,.int .i64 0,.bool false,.bool false,.int .i64 0],.agg 85 [.int .i64 1,.int .i64 (-1),.bool false,.bool false,.int .i64 0]],.bool true],.agg 65 (by8 [150,43,153,188,10,22,125,174,31,250,120,209,18,105,255,193,73,34,213,37,202,22,214,2,72,242,199,202,168,105,70,3]),.agg 43 [.int .i64 0,.str [67,0,0,122,108,79,21,176,240,237,199,155,2,210,19,58,124,119,200,225,82,232,215,247,145,243,145,125,218,178,100,224,26,96,18,1,42,237,57,191,39,46,253,156,91,120,169,228,39,137,60,170,135,93,169,73,212,32,122,104,196,31,46,52,187,254,72,237],.lst 9 .sh [.str [1,3,0,1,10]]],.agg 50 [.int .i64 1,.str [1,1,1,0,0],.str [1,1,0,0,0],.lst 66 .sh [.agg 65 (by8 [16,72,125,134,206,53,132,225,86,135,78,217,178,101,14,141,119,42,141,31,219,177,201,17,27,247,226,251,202,177,140,203])],.lst 66 .sh [.agg 65 (by8 [176,246,106,220,131,100,21,134,101,104,102,129,63,217,221,11,142,187,99,121,96,117,102,27,164,93,26,168,8,158,29,68])]]],(.int .i64 0,[.agg 23 [.int .i64 2,.lst 96 .sh [.agg 95 [.int .i64 0,.int .i64 1,.int .i64 5]]],.agg 23 [.int .i64 2,.lst 96 .sh [.agg 95 [.int .i64 0,.int .i64 1,.int .i64 5]]],.agg 25 [.str [115,115,115,112],.int .i64 0,.int .i64 3],.agg 102 [.agg 23 [.int .i64 2,.lst 96 .sh [.agg 95 [.int .i64 0,.int .i64 1,.int .i64 5]]],.agg 25 [.str [115,115,115,112],.int .i64 0,.int .i64 3],.int .i64 1,.int .i64 0,.int .i64 1,.lst 86 .nil [],.lst 86 .own [.agg 85 [.int .i64 0,.int .i64 0,.bool false,.bool false,.int .i64 0],.agg 85 [.int .i64 1,.int .i64 (-1),.bool false,.bool false,.int .i64 0]],.bool false],.agg 65 (by8 [150,43,153,188,10,22,125,174,31,250,120,209,18,105,255,193,73,34,213,37,202,22,214,2,72,242,199,202,168,105,70,3]),.agg 43 [.int .i64 0,.str [67,0,0,122,108,79,21,176,240,237,199,155,2,210,19,58,124,119,200,225,82,232,215,247,145,243,145,125,218,178,100,224,26,96,18,1,42,237,57,191,39,46,253,156,91,120,169,228,39,137,60,170,135,93,169,73,212,32,122,104,196,31,46,52,187,254,72,237],.lst 9 .sh [.str [1,3,0,1,10]]],.agg 50 [.int .i64 1,.str [1,1,1,0,0],.str [1,1,0,0,0],.lst 66 .sh [.agg 65 (by8 [16,72,125,134,206,53,132,225,86,135,78,217,178,101,14,141,119,42,141,31,219,177,201,17,27,247,226,251,202,177,140,203])],.lst 66 .sh [.agg 65 (by8 [176,246,106,220,131,100,21,134,101,104,102,129,63,217,221,11,142,187,99,121,96,117,102,27,164,93,26,168,8,158,29,68])]]])⟩::T25
theorem ANJ:∀e∈T26,e.ok:=List.forall_mem_cons.2 ⟨(Az (Bg AGK Bf) 400).1 _ _ _ _ (by kernel_rfl),AGK⟩
theorem AJk:Cl 10 [] []=some (.bool true,[]):=(Az (Bg ANJ Bf) 400).1 _ _ _ _ (by kernel_rfl)
end
section
open Go AM
def RD (g:Grf) (j:Job) (n w:Int):Bool:=EX g j&&(decide (1≤n)&&(decide (n≤64)&&(decide (0≤w)&&decide (w<n))))
theorem YJ {g:Grf} (hl:g.es.length<1000000) (j:Job) (n w:Int):Cl 13 [vG .sh g,vJ j,.int .i64 n,.int .i64 w] []=some (.bool (RD g j n w),[]):=by
 have hg:=ZY hl j
 rw[RD,ALW]
 generalize EX g j=b at*
 repeat' first|rfl|refine ZO (fun _=> ?_) (fun _=> ?_)|refine ZP (fun _=> ?_) (fun _=> ?_)|simp(disch:=first|assumption|omega|(with_reducible rfl)|(simp only[go_sem];done)|(simp only[go_sem];omega)|fail) only[↓reduceIte,↓AO,Nat.reduceAdd,go_sem,hg]
 all_goals simp_all
 all_goals omega
end
section
open Go AM
abbrev ADH (f:Fl) (ins:List (List Msg)):V:= .lst 39 f (ins.map (Bl .sh))
theorem ANK {k:Wkr} (hk:WkOk k) {at_:Int} (ha: -1000≤at_∧at_≤1000) (ms:List Msg):WkOk (doK k at_ ms):=by
 obtain⟨d1,_,_,d4⟩:=Va hk at_ ms
 exact⟨hk.job,hk.n1,hk.n64,hk.w,⟨by show(-9223372036854775808:Int)≤at_+1;omega,by show at_+1<(9223372036854775808:Int);omega⟩,d4,d1⟩
theorem cpM {l:List Msg} (hl:l.length≤1000000) (h:List V):Gv 152 (tyG 151) false h (.lst 152 .own []) (Bl .sh l).weak=some (.lst 152 .own (l.map Aa)):=by
 show Gv _ _ _ _ _ (.lst 152 .sh (l.map Aa))=_
 rw[Dt (G5 l) (all_map (fun _=>rfl) l) (by simp;omega),List.nil_append]
 rfl
section
variable {g:Grf} {j:Job} {at_:Int} {ins:List (List Msg)}
theorem AGL (hI:ins.length≤8):∀(m i:Nat) (fp fn:Fl) (k:Wkr),i+m=ins.length→WkOk k→k.step=(i:Int)→k.j=j→(fn= .own∨fn= .nil∨fn= .sh)→
 AAE (ADH .sh ins) (.int .i64 at_) (.ref 1 [] 26) (.ref 4 [] 103) (.int .i64 (i:Int)) [vG .sh g,vJ j,vG .sh g,vJ j,SK fp fn k]=some (.bool true,[]):=by
 intro m
 induction m with
 |zero=>
  intro i fp fn k hi hk hs hj hfn
  have ls:AL .lss (.int .i64 (i:Int)) (.int .i64 (ins.length:Int))=some (.bool false):=by rw[b_lss,decide_eq_false (by omega)]
  have lL:E5 (V.weak (ADH .sh ins))=some (.int .i64 (ins.length:Int)):=by show some _=_;rw[List.length_map]
  rw[WA]
  refine Yu (R:=fun X=>X=_) ?_
  refine(AA lL _).trans ?_
  refine(AA ls _).trans ?_
  refine(Aj _ _).trans ?_
  refine(Aj _ _).trans ?_
  rfl
 |succ m ih=>
  intro i fp fn k hi hk hs hj hfn
  have h:i<ins.length:=by omega
  have ls:AL .lss (.int .i64 (i:Int)) (.int .i64 (ins.length:Int))=some (.bool true):=by rw[b_lss,decide_eq_true (by omega)]
  have lL:E5 (V.weak (ADH .sh ins))=some (.int .i64 (ins.length:Int)):=by show some _=_;rw[List.length_map]
  have ix:Eg 39 (V.weak (ADH .sh ins)) (.int .i64 (i:Int))=some (.rop 39 (Bl .sh ins[i])):=by
   show Eg _ (.lst _ .sh _) _=_
   rw[EQ,List.getElem?_map,List.getElem?_eq_getElem h];rfl
  have ad:AL .add (.int .i64 (i:Int)) (.int .i64 1)=some (.int .i64 ((i+1:Nat):Int)):=by rw[DT,wrap_i64 (by omega) (by omega)];rfl
  rw[WA]
  refine Yu (R:=fun X=>X=_) ?_
  refine(AA lL _).trans ?_
  refine(AA ls _).trans ?_
  refine(Ag _ _).trans ?_
  iterate 2 refine rb (R:=fun X=>X=_) rfl ?_
  by_cases hst:(i:Int)<j.steps
  rotate_left
  ·have l2:AL .lss (.int .i64 (i:Int)) (.int .i64 j.steps)=some (.bool false):=by rw[b_lss,decide_eq_false hst]
   refine(AA l2 _).trans ?_
   refine(Aj _ _).trans ?_
   rfl
  have l2:AL .lss (.int .i64 (i:Int)) (.int .i64 j.steps)=some (.bool true):=by rw[b_lss,decide_eq_true hst]
  refine(AA l2 _).trans ?_
  refine(Ag _ _).trans ?_
  refine(AA ix _).trans ?_
  have ld:∀H,CW H 39 (.rop 39 (Bl .sh ins[i]))=some (Bl .sh ins[i]).weak:=fun H=>by simp only[CW,En,Option.map_some]
  refine(AA (ld _) _).trans ?_
  have l3:E5 (Bl .sh ins[i]).weak=some (.int .i64 ((ins[i]).length:Int)):=by show some _=_;rw[List.length_map]
  refine(AA l3 _).trans ?_
  by_cases h20:20<(ins[i]).length
  ·have g3:AL .gtr (.int .i64 ((ins[i]).length:Int)) (.int .i64 20)=some (.bool true):=by rw[b_gtr,decide_eq_true (by omega)]
   refine(AA g3 _).trans ?_
   refine(Ag _ _).trans ?_
   rfl
  have g3:AL .gtr (.int .i64 ((ins[i]).length:Int)) (.int .i64 20)=some (.bool false):=by rw[b_gtr,decide_eq_false (by omega)]
  refine(AA g3 _).trans ?_
  refine(Aj _ _).trans ?_
  have AL9:j.steps≤64:=by
   have:=hk.job
   simp only[EX,decide_eq_true_eq]at this
   rw[hj]at this;exact this.2.2.2.2.2
  have cp:=cpM (l:=ins[i]) (by omega)
  have bs:Nr 152 false (ck [] [])=some (.lst 152 .own []):=rfl
  have n0:∀z:Int,z≠0→AL .neq (.int .i64 z) (.int .i64 0)=some (.bool true):=fun z hz=>by rw[b_neq];simp[hz]
  have nz:∀z:Int,AL .neq (.int .i64 z) (.int .i64 z)=some (.bool false):=fun z=>by rw[b_neq];simp
  have nss:∀z:List UInt8,AL .neq (.str z) (.str z)=some (.bool false):=fun z=>by
   simp only[AL]
   congr 2
   simp
  have nx:=fun(fp' fn':Fl) (h1:fn'= .own∨fn'= .nil∨fn'= .sh)=>ih (i+1) fp' fn' (doK k (i:Int) ins[i]) (by omega) (ANK hk (by omega) _) (by simp[doK]) hj h1
  have kj:(i:Int)<k.j.steps:=by rw[hj];exact hst
  clear ih
  by_cases hat:at_=(i:Int)
  ·have ne:AL .neq (.int .i64 at_) (.int .i64 (i:Int))=some (.bool false):=by rw[b_neq];simp[hat]
   obtain⟨fd,hfd,d⟩:=ANE (a0:=vG .sh g) (a1:=vJ j) (a2:=vG .sh g) (a3:=vJ j) (fp:=fp) (fn:=fn) (at_:=(i:Int)) (ms:=ins[i]) hk hfn (by omega) hs.symm kj (by omega)
   refine(AA ne _).trans ?_
   refine Yu (R:=fun X=>X=_) ?_
   refine(Aj _ _).trans ?_
   refine(AA bs _).trans ?_
   refine(AA ix _).trans ?_
   refine(AA (ld _) _).trans ?_
   refine(AA (cp _) _).trans ?_
   refine(AA (show Cl 17 (AQ [.ref 4 [] 103,.int .i64 (i:Int),.lst 152 .own ((ins[i]).map Aa)]) _=_ from d) _).trans ?_
   by_cases he:doE k (i:Int) ins[i]=0
   ·rw[if_pos he]
    iterate 3 refine rb (R:=fun X=>X=_) rfl ?_
    refine(AA (nz 0) _).trans ?_
    refine(Aj _ _).trans ?_
    refine(AA ad _).trans ?_
    refine BP (R:=fun X=>X=_) rfl ?_
    exact nx fn.wk fd (by rcases hfd with rfl|rfl<;>simp)
   ·rw[if_neg he]
    iterate 3 refine rb (R:=fun X=>X=_) rfl ?_
    refine(AA (n0 _ he) _).trans ?_
    refine(Ag _ _).trans ?_
    rfl
  ·have ne:AL .neq (.int .i64 at_) (.int .i64 (i:Int))=some (.bool true):=by rw[b_neq];simp[hat]
   have sv1:=ACM (h:=[vG .sh g,vJ j,vG .sh g,vJ j,SK fp fn k]) (id:=4) rfl hfn (by omega) (by omega) hk.now hk.len
   have sv2:=ACM (h:=[vG .sh g,vJ j,vG .sh g,vJ j,SK fp fn k,Yv 131 [] .sh []]) (id:=4) rfl hfn (by omega) (by omega) hk.now hk.len
   have sp2:=AF0 (h:=[vG .sh g,vJ j,vG .sh g,vJ j,SK fp fn k,Yv 131 [] .sh []]) (id:=4) (fp:=fp) (fn:=fn) (k:=k) rfl
   have bd:=AJg (a0:=vG .sh g) (a1:=vJ j) (a2:=vG .sh g) (a3:=vJ j) (fp:=fp) (fn:=fn) (k:=k) (at_:=at_) (ms:=ins[i]) .sh (.inl rfl) (.inl (by omega))
   obtain⟨fd,hfd,d⟩:=ANI (a0:=vG .sh g) (a1:=vJ j) (a2:=vG .sh g) (a3:=vJ j) (a5:=Yv 131 [] .sh []) (fp:=fp) (fn:=fn) (at_:=(i:Int)) (ms:=ins[i]) hk hfn (by omega) hs.symm kj (by omega)
   refine(AA ne _).trans ?_
   refine Yu (R:=fun X=>X=_) ?_
   refine(Ag _ _).trans ?_
   refine(AA (show Cl 21 (AQ [.ref 4 [] 103]) _=_ from sv1) _).trans ?_
   refine(AA bs _).trans ?_
   refine(AA ix _).trans ?_
   refine(AA (ld _) _).trans ?_
   refine(AA (cp _) _).trans ?_
   refine(AA (show Cl 17 (AQ [.ref 4 [] 103,.int .i64 at_,.lst 152 .own ((ins[i]).map Aa)]) _=_ from bd) _).trans ?_
   refine rb (R:=fun X=>X=_) rfl ?_
   refine Yu (R:=fun X=>X=_) ?_
   iterate 2 refine rb (R:=fun X=>X=_) rfl ?_
   refine(AA (nz 131) _).trans ?_
   refine(Aj _ _).trans ?_
   iterate 2 refine rb (R:=fun X=>X=_) rfl ?_
   refine(AA (nss []) _).trans ?_
   refine(Aj _ _).trans ?_
   iterate 3 refine rb (R:=fun X=>X=_) rfl ?_
   refine(AA (nz 0) _).trans ?_
   refine(Aj _ _).trans ?_
   refine(AA (show Cl 21 (AQ [.ref 4 [] 103]) _=_ from sv2) _).trans ?_
   refine(AA (nss _) _).trans ?_
   refine(Aj _ _).trans ?_
   refine(AA (show Cl 25 (AQ [.ref 4 [] 103]) _=_ from sp2) _).trans ?_
   rw[hs]
   refine(AA (nz _) _).trans ?_
   refine(Aj _ _).trans ?_
   refine(AA bs _).trans ?_
   refine(AA ix _).trans ?_
   refine(AA (ld _) _).trans ?_
   refine(AA (cp _) _).trans ?_
   refine(AA (show Cl 17 (AQ [.ref 4 [] 103,.int .i64 (i:Int),.lst 152 .own ((ins[i]).map Aa)]) _=_ from d) _).trans ?_
   by_cases he:doE k (i:Int) ins[i]=0
   ·rw[if_pos he]
    iterate 3 refine rb (R:=fun X=>X=_) rfl ?_
    refine(AA (nz 0) _).trans ?_
    refine(Aj _ _).trans ?_
    refine(AA ad _).trans ?_
    refine BP (R:=fun X=>X=_) rfl ?_
    exact nx fn.wk fd (by rcases hfd with rfl|rfl<;>simp)
   ·rw[if_neg he]
    iterate 3 refine rb (R:=fun X=>X=_) rfl ?_
    refine(AA (n0 _ he) _).trans ?_
    refine(Ag _ _).trans ?_
    rfl
end
def wk0 (g:Grf) (j:Job) (N w:Nat):Wkr:=⟨g,j,N,w,0,[],Zb g j N w,false⟩
theorem ANL {g:Grf} {j:Job} (hj:EX g j=true) {N w:Nat} (h1:1≤N) (hN:N≤64) (hw:w<N):WkOk (wk0 g j N w):=by
 have hg':=ACJ hj
 have:=AFy g j N w
 exact⟨hj,h1,hN,hw,by simp[wk0,I64],AJc hg'.2 j N w,by show(Zb g j N w).length≤64;omega⟩
set_option maxHeartbeats 1000000 in
theorem RF (g:Grf) (j:Job) (n w:Int) (ins:List (List Msg)) (at_:Int):Cl 6 [vG .sh g,vJ j,.int .i64 n,.int .i64 w,ADH .sh ins,.int .i64 at_] []=some (.bool true,[]):=by
 have hA:=AJk
 have nt:un .not (.bool true)=some (.bool false):=rfl
 have nf:un .not (.bool false)=some (.bool true):=rfl
 have pg:(vG .sh g).pl=true:=by simp only[go_sem]
 have wkG:(vG .sh g).weak=vG .sh g:=(V.PF _ pg).weak
 have t0:((AM.tyG 23) (vG .sh g)&&V.under 0 (vG .sh g))=true:=by rw[(V.PF _ pg).under];rfl
 have lE:E5 (.lst 96 .sh (g.es.map D7))=some (.int .i64 (g.es.length:Int)):=by show some _=_;rw[List.length_map]
 have lI:E5 (V.weak (ADH .sh ins))=some (.int .i64 (ins.length:Int)):=by show some _=_;rw[List.length_map]
 have kA:∀K:V→Rv,(∀b:Bool,b=true→K (.bool b)=some (.bool true,[]))→True:=fun _ _=>trivial
 have skip:∀H:List V,(Cl 10 (AB H []) []).bind (fun r=>AP 0 H r.1)=some (.bool true,[]):=fun H=>AA (show Cl 10 (AB H []) []=_ from hA) _
 rw[AOP,wkG]
 refine BP (R:=fun X=>X=_) t0 ?_
 refine BP (R:=fun X=>X=_) rfl ?_
 refine Yu (R:=fun X=>X=_) ?_
 refine rb (R:=fun X=>X=_) (show Cl 10 (AB _ []) []=_ from hA) ?_
 refine(AA nt _).trans ?_
 refine(Aj _ _).trans ?_
 iterate 2 refine rb (R:=fun X=>X=_) rfl ?_
 refine(AA lE _).trans ?_
 by_cases h1:40<g.es.length
 ·have g1:AL .gtr (.int .i64 (g.es.length:Int)) (.int .i64 40)=some (.bool true):=by rw[b_gtr,decide_eq_true (by omega)]
  refine(AA g1 _).trans ?_
  refine(Ag _ _).trans ?_
  refine(Ag _ _).trans ?_
  exact skip _
 have g1:AL .gtr (.int .i64 (g.es.length:Int)) (.int .i64 40)=some (.bool false):=by rw[b_gtr,decide_eq_false (by omega)]
 refine(AA g1 _).trans ?_
 refine(Aj _ _).trans ?_
 iterate 2 refine rb (R:=fun X=>X=_) rfl ?_
 by_cases h2:12<g.n
 ·have g2:AL .gtr (.int .i64 g.n) (.int .i64 12)=some (.bool true):=by rw[b_gtr,decide_eq_true (by omega)]
  refine(AA g2 _).trans ?_
  refine(Ag _ _).trans ?_
  refine(Ag _ _).trans ?_
  exact skip _
 have g2:AL .gtr (.int .i64 g.n) (.int .i64 12)=some (.bool false):=by rw[b_gtr,decide_eq_false (by omega)]
 refine(AA g2 _).trans ?_
 refine(Aj _ _).trans ?_
 refine(AA lI _).trans ?_
 by_cases h3:8<ins.length
 ·have g3:AL .gtr (.int .i64 (ins.length:Int)) (.int .i64 8)=some (.bool true):=by rw[b_gtr,decide_eq_true (by omega)]
  refine(AA g3 _).trans ?_
  refine(Ag _ _).trans ?_
  refine(Ag _ _).trans ?_
  exact skip _
 have g3:AL .gtr (.int .i64 (ins.length:Int)) (.int .i64 8)=some (.bool false):=by rw[b_gtr,decide_eq_false (by omega)]
 refine(AA g3 _).trans ?_
 refine(Aj _ _).trans ?_
 iterate 2 refine rb (R:=fun X=>X=_) rfl ?_
 have hl:g.es.length<1000000:=by omega
 have rt:=YJ hl j n w
 have rtH:∀H,Cl 13 (AB H [(vG .sh g).weak,vJ j,.int .i64 n,.int .i64 w]) []=some (.bool (RD g j n w),[]):=fun H=>by
  rw[wkG,AB,(V.PF _ pg).reify];exact rt
 refine(AA (rtH _) _).trans ?_
 cases hr:RD g j n w with
 |false=>
  refine(AA nf _).trans ?_
  refine(Ag _ _).trans ?_
  exact skip _
 |true=>
 refine(AA nt _).trans ?_
 refine(Aj _ _).trans ?_
 simp only[RD,Bool.and_eq_true,decide_eq_true_eq]at hr
 obtain⟨hj,n1,n2,w0,wn⟩:=hr
 obtain⟨N,rfl⟩:=Int.eq_ofNat_of_zero_le (show 0≤n by omega)
 obtain⟨u,rfl⟩:=Int.eq_ofNat_of_zero_le w0
 have ow:=AFz hl
 have owH:∀H,Cl 12 (AB H [(vG .sh g).weak]) []=some (vG .sh g,[]):=fun H=>by
  rw[wkG,AB,(V.PF _ pg).reify];exact ow
 have ha:Bo 4 [vG .sh g,vJ j]=true:=by simp only[Bo,(V.PF _ pg).away];rfl
 obtain⟨f',hf',nw⟩:=AF2 (a:=vG .sh g) (b:=vJ j) hl hj (N:=N) (w:=u) (by omega) (by omega) (by omega) ha
 have nwH:Cl 11 (AQ [vG .sh g,vJ j,.int .i64 (N:Int),.int .i64 (u:Int)]) [vG .sh g,vJ j]=some (.tup [.ref 4 [] 103,.int .i64 0],[vG .sh g,vJ j,vG .sh g,vJ j,SK .nil f' (wk0 g j N u)]):=by
  rw[AQ,(V.PF _ pg).norm];exact nw
 have lp:=AGL (g:=g) (j:=j) (at_:=at_) (ins:=ins) (by omega) ins.length 0 .nil f' (wk0 g j N u) (by omega) (ANL hj (by omega) (by omega) (by omega)) rfl rfl (by rcases hf' with rfl|rfl<;>simp)
 refine rb (R:=fun X=>X=_) (x:=(vG .sh g).weak) rfl ?_
 refine(AA (owH _) _).trans ?_
 refine rb (R:=fun X=>X=_) (x:=vJ j) rfl ?_
 refine(AA nwH _).trans ?_
 refine rb (R:=fun X=>X=_) (x:=V.ref 4 [] 103) rfl ?_
 refine rb (R:=fun X=>X=_) (x:=V.int .i64 0) rfl ?_
 refine Yu (R:=fun X=>X=_) ?_
 refine(AA (show AL .neq (.int .i64 0) (.int .i64 0)=some (.bool false)from rfl) _).trans ?_
 refine(Aj _ _).trans ?_
 refine(AA (show AD0 .eql (.ref 4 [] 103)=some (.bool false)from rfl) _).trans ?_
 refine(Aj _ _).trans ?_
 exact lp
end
end Go.Proofs.YtoakaehjnbhgmaaGreatDoor
