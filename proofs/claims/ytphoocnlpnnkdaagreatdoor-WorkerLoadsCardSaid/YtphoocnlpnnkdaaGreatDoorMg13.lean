/-
  Part of the proof of a statement about the given program: an abstract machine over its code, the simulation, its functions' equations, what they compute.
-/
import Derived.Test.YtphoocnlpnnkdaaGreatDoorMg10
import Derived.Test.YtphoocnlpnnkdaaGreatDoorMg12
import Derived.Test.YtphoocnlpnnkdaaGreatDoorMg3
import Derived.Test.YtphoocnlpnnkdaaGreatDoorMg5
set_option linter.unusedVariables false
set_option linter.unusedSimpArgs false
set_option linter.unusedSectionVars false
set_option maxRecDepth 100000
noncomputable section
namespace Go.Proofs.YtphoocnlpnnkdaaGreatDoor
section
open Go AM
section
variable {a0 a1 a2 a3 a4 a5 a6:V} {fp fn:Fl} {k:Wkr} {at_:Int} {ms:List Msg}
abbrev JH (a0 a1 a2 a3 a4 a5 a6:V) (fp fn:Fl) (k:Wkr) (at_:Int) (ms:List Msg) (fb:Fl) (b:List Vtx) (fd:Fl) (d:List Vtx) (fs:Fl) (s:List Msg):List V:=[a0,a1,a2,a3,a4,a5,a6,Dq fp fn k,.ref 7 [] 68,.int .i64 at_,BZ .sh ms,JF 0 [] .nil [],Cb fb b,Cb fd d,.lst 103 fs (s.map Ac)]
abbrev AQr:V:= .clo 36 [.ref 8 [] 30,.ref 10 [] 36,.ref 12 [] 48]
abbrev AQs:V:= .clo 38 [.ref 8 [] 30,.ref 9 [] 3,.ref 13 [] 48,.ref 14 [] 36]
theorem ATn (hms:ms.length≤1000000) {fb:Fl} {b:List Vtx} (hb:b.length≤1000) (hf:fb= .own∨fb= .nil∧b=[]) (x:Vtx):
 Cl 36 [A7 x,.ref 8 [] 30,.ref 10 [] 36,.ref 12 [] 48] (JH a0 a1 a2 a3 a4 a5 a6 fp fn k at_ ms fb b .nil [] .nil []++[A7 x])=some (.int .i64 (BK k.j ms x).2,JH a0 a1 a2 a3 a4 a5 a6 fp fn k at_ ms .own (b++[(BK k.j ms x).1]) .nil [] .nil []++[A7 x]):=by
 have ca:=QA k.j.tag hms x.id (fl:= .sh) (.inl rfl)
 have ap:∀(h:List V) (y:Vtx),FU 70 (tyG Ld) false h (Cb fb b) (.lst 70 .own [A7 y])=some (Cb .own (b++[y])):=fun h y=>by
  have cl:AU [A7 y]=true:=rfl
  have ty:[A7 y].all (tyG Ld)=true:=rfl
  unfold Cb
  rw[List.map_append]
  rcases hf with rfl|⟨rfl,rfl⟩
  ·rw[Bj cl ty (by simp;omega)];rfl
  ·rw[List.map_nil,Bf cl ty (by simp)];rfl
 rw[VW]
 simp only[BK]
 generalize Es k.j.tag ms x.id=q at*
 refine Ae rfl ?_
 iterate 8 refine AZ rfl ?_
 refine AZ (show Cl 37 _ _=_ from ca) ?_
 iterate 3 refine AZ rfl ?_
 iterate 4 refine AZ rfl ?_
 iterate 3 refine AZ rfl ?_
 refine AZ (ap _ ⟨x.id,x.val,x.act,q.2.1,q.1⟩) ?_
 refine AZ rfl ?_
 rfl
theorem AMR (hms:ms.length≤1000000) {l:List Vtx} (hl:l.length≤64):∀(m i:Nat) (fb:Fl) (b:List Vtx),i+m=l.length→b.length≤i→(fb= .own∨fb= .nil∧b=[])→∃fb':Fl,(fb'= .own∨fb'= .nil)∧
 Gi AQr (Cb .sh l) (.int .i64 (l.length:Int)) (.int .i64 (i:Int)) 15 (JH a0 a1 a2 a3 a4 a5 a6 fp fn k at_ ms fb b .nil [] .nil [])=some (.int .i64 (DY (BK k.j ms) (l.drop i)).2,JH a0 a1 a2 a3 a4 a5 a6 fp fn k at_ ms fb' (b++(DY (BK k.j ms) (l.drop i)).1) .nil [] .nil []):=by
 intro m
 induction m with
 |zero=>
  intro i fb b hi hb hf
  have ls:AL .lss (.int .i64 (i:Int)) (.int .i64 (l.length:Int))=some (.bool false):=by rw[b_lss,decide_eq_false (by omega)]
  refine⟨fb,by rcases hf with rfl|⟨rfl,_⟩<;>simp,?_⟩
  rw[List.drop_eq_nil_of_le (by omega),BF]
  simp only[DY,List.append_nil]
  refine Ah ls ?_
  rfl
 |succ m ih=>
  intro i fb b hi hb hf
  have h:i<l.length:=by omega
  have ls:AL .lss (.int .i64 (i:Int)) (.int .i64 (l.length:Int))=some (.bool true):=by rw[b_lss,decide_eq_true (by omega)]
  have ix:D9 70 (Cb .sh l) (.int .i64 (i:Int))=some (.rop 70 (A7 l[i])):=by
   rw[DL,List.getElem?_map,List.getElem?_eq_getElem h];rfl
  have ad:AL .add (.int .i64 (i:Int)) (.int .i64 1)=some (.int .i64 ((i+1:Nat):Int)):=by rw[Bq,wrap_i64 (by omega) (by omega)];rfl
  have d1:=ATn (a0:=a0) (a1:=a1) (a2:=a2) (a3:=a3) (a4:=a4) (a5:=a5) (a6:=a6) (fp:=fp) (fn:=fn) (k:=k) (at_:=at_) hms (fb:=fb) (b:=b) (by omega) hf l[i]
  rw[List.drop_eq_getElem_cons h,DY]
  by_cases hq:(BK k.j ms l[i]).2=0
  ·obtain⟨fb',hf',nx⟩:=ih (i+1) .own (b++[(BK k.j ms l[i]).1]) (by omega) (by simp;omega) (.inl rfl)
   refine⟨fb',hf',?_⟩
   have ne:AL .neq (.int .i64 (BK k.j ms l[i]).2) (.int .i64 0)=some (.bool false):=by rw[b_neq];simp[hq]
   rw[if_pos hq]
   simp only[show b++(BK k.j ms l[i]).1::(DY (BK k.j ms) (l.drop (i+1))).1=b++[(BK k.j ms l[i]).1]++(DY (BK k.j ms) (l.drop (i+1))).1 by simp]
   rw[←nx,BF]
   clear ih nx hf
   generalize BK k.j ms l[i]=q at*
   generalize l[i]=x at*
   generalize (i+1:Nat)=i2 at*
   generalize (l.length:Int)=ll at*
   generalize l.map A7=LL at*
   refine Ah ls ?_
   refine Be ?_
   refine Ah ix ?_
   refine AZ rfl ?_
   refine AZ rfl ?_
   refine AZ rfl ?_
   refine DZ d1 ?_
   refine Ae rfl ?_
   refine Ah ne ?_
   refine BP ?_
   refine Ah ad ?_
   refine Ae rfl ?_
   rfl
  ·refine⟨.own,.inl rfl,?_⟩
   have ne:AL .neq (.int .i64 (BK k.j ms l[i]).2) (.int .i64 0)=some (.bool true):=by rw[b_neq];simp[hq]
   rw[if_neg hq,BF]
   clear ih hf
   generalize BK k.j ms l[i]=q at*
   generalize l[i]=x at*
   generalize (l.length:Int)=ll at*
   generalize l.map A7=LL at*
   refine Ah ls ?_
   refine Be ?_
   refine Ah ix ?_
   refine AZ rfl ?_
   refine AZ rfl ?_
   refine AZ rfl ?_
   refine DZ d1 ?_
   refine Ae rfl ?_
   refine Ah ne ?_
   refine Be ?_
   rfl
theorem AIg (hms:ms.length≤1000000) {l:List Vtx} (hl:l.length≤64):∃fb':Fl,(fb'= .own∨fb'= .nil)∧
 Cl 35 [Cb .sh l,AQr] (JH a0 a1 a2 a3 a4 a5 a6 fp fn k at_ ms .nil [] .nil [] .nil [])=some (.int .i64 (DY (BK k.j ms) l).2,JH a0 a1 a2 a3 a4 a5 a6 fp fn k at_ ms fb' (DY (BK k.j ms) l).1 .nil [] .nil []):=by
 obtain⟨fb',hf',lp⟩:=AMR (a0:=a0) (a1:=a1) (a2:=a2) (a3:=a3) (a4:=a4) (a5:=a5) (a6:=a6) (fp:=fp) (fn:=fn) (k:=k) (at_:=at_) hms hl l.length 0 .nil [] (by omega) (Nat.le_refl 0) (.inr ⟨rfl,rfl⟩)
 have lL:EJ (Cb .sh l)=some (.int .i64 (l.length:Int)):=by show some _=_;rw[List.length_map]
 refine⟨fb',hf',?_⟩
 rw[List.drop_zero,List.nil_append]at lp
 rw[←lp,JS]
 exact AA lL _
theorem ATo (hk:WkOk k) {fb:Fl} {b:List Vtx} {fd fs:Fl} {d:List Vtx} {s:List Msg} (hd:d.length≤1000) (hs:s.length≤900000) (hf:fd= .own∨fd= .nil∧d=[]) (hf2:fs= .own∨fs= .nil∧s=[]) {x:Vtx} (hx:GZ x):
 Cl 38 [A7 x,.ref 8 [] 30,.ref 9 [] 3,.ref 13 [] 48,.ref 14 [] 36] (JH a0 a1 a2 a3 a4 a5 a6 fp fn k at_ ms fb b fd d fs s++[A7 x])=some (.int .i64 (AV k.g k.j at_ x).2.2,JH a0 a1 a2 a3 a4 a5 a6 fp fn k at_ ms fb b .own (d++[(AV k.g k.j at_ x).1]) (if fs= .nil∧(AV k.g k.j at_ x).2.1=[]then .nil else .own) (s++(AV k.g k.j at_ x).2.1)++[A7 x]):=by
 obtain⟨st,_,_,_,hln⟩:=Eb hk.job at_ hx
 have ap:∀(h:List V) (y:Vtx),FU 70 (tyG Ld) false h (Cb fd d) (.lst 70 .own [A7 y])=some (Cb .own (d++[y])):=fun h y=>by
  have cl:AU [A7 y]=true:=rfl
  have ty:[A7 y].all (tyG Ld)=true:=rfl
  unfold Cb
  rw[List.map_append]
  rcases hf with rfl|⟨rfl,rfl⟩
  ·rw[Bj cl ty (by simp;omega)];rfl
  ·rw[List.map_nil,Bf cl ty (by simp)];rfl
 have ap2:∀(h:List V) (u:List Msg),u.length≤1000→FU 103 (tyG 102) false h (.lst 103 fs (s.map Ac)) (BZ .sh u)=some (.lst 103 (if fs= .nil∧u=[]then .nil else .own) ((s++u).map Ac)):=fun h u hu=>by
  have cl:AU (u.map Ac)=true:=F6 u
  have ty:(u.map Ac).all (tyG 102)=true:=all_map (fun _=>rfl) u
  rw[List.map_append]
  rcases hf2 with rfl|⟨rfl,rfl⟩
  ·rw[BZ,Bj cl ty (by simp;omega)]
   simp only[reduceCtorEq,false_and,if_false];rfl
  ·cases u with
   |nil=>rfl
   |cons y u=>
    rw[BZ,List.map_nil,List.map_cons,Bf (by simpa using cl) (by simpa using ty) (by simp at hu⊢;omega)]
    simp;rfl
 rw[VY]
 generalize AV k.g k.j at_ x=q at*
 refine Ae rfl ?_
 iterate 10 refine AZ rfl ?_
 refine Ae rfl ?_
 refine AZ (show Cl 39 _ _=_ from st) ?_
 iterate 4 refine AZ rfl ?_
 refine Ae rfl ?_
 refine Ae rfl ?_
 refine AZ rfl ?_
 refine Ae rfl ?_
 iterate 2 refine AZ rfl ?_
 refine Ae (by rcases hf with rfl|⟨rfl,rfl⟩<;>rfl) ?_
 refine AZ (ap _ q.1) ?_
 refine Ae rfl ?_
 refine AZ rfl ?_
 refine AZ (ap2 _ q.2.1 hln) ?_
 refine AZ rfl ?_
 refine AZ (x:=JH a0 a1 a2 a3 a4 a5 a6 fp fn k at_ ms fb b .own (d++[q.1]) (if fs= .nil∧q.2.1=[]then .nil else .own) (s++q.2.1)++[A7 x]++[A7 x]++[A7 q.1]) (by split<;>rfl) ?_
 rfl
theorem AMS (hk:WkOk k) {fb:Fl} {b:List Vtx} {l:List Vtx} (hl:l.length≤64) (hx:∀x∈l,GZ x):∀(m i:Nat) (fd fs:Fl) (d:List Vtx) (s:List Msg),i+m=l.length→d.length≤i→s.length≤1000*i→(fd= .own∨fd= .nil∧d=[])→(fs= .own∨fs= .nil∧s=[])→∃fd' fs':Fl,(fd'= .own∨fd'= .nil)∧(fs'= .own∨fs'= .nil)∧
 Gi AQs (Cb .sh l) (.int .i64 (l.length:Int)) (.int .i64 (i:Int)) 15 (JH a0 a1 a2 a3 a4 a5 a6 fp fn k at_ ms fb b fd d fs s)=some (.int .i64 (Bg (AV k.g k.j at_) (l.drop i)).2.2,JH a0 a1 a2 a3 a4 a5 a6 fp fn k at_ ms fb b fd' (d++(Bg (AV k.g k.j at_) (l.drop i)).1) fs' (s++(Bg (AV k.g k.j at_) (l.drop i)).2.1)):=by
 intro m
 induction m with
 |zero=>
  intro i fd fs d s hi hd hs hf hf2
  have ls:AL .lss (.int .i64 (i:Int)) (.int .i64 (l.length:Int))=some (.bool false):=by rw[b_lss,decide_eq_false (by omega)]
  refine⟨fd,fs,by rcases hf with rfl|⟨rfl,_⟩<;>simp,by rcases hf2 with rfl|⟨rfl,_⟩<;>simp,?_⟩
  rw[List.drop_eq_nil_of_le (by omega),BF]
  simp only[Bg,List.append_nil]
  refine Ah ls ?_
  rfl
 |succ m ih=>
  intro i fd fs d s hi hd hs hf hf2
  have h:i<l.length:=by omega
  have ls:AL .lss (.int .i64 (i:Int)) (.int .i64 (l.length:Int))=some (.bool true):=by rw[b_lss,decide_eq_true (by omega)]
  have ix:D9 70 (Cb .sh l) (.int .i64 (i:Int))=some (.rop 70 (A7 l[i])):=by
   rw[DL,List.getElem?_map,List.getElem?_eq_getElem h];rfl
  have ad:AL .add (.int .i64 (i:Int)) (.int .i64 1)=some (.int .i64 ((i+1:Nat):Int)):=by rw[Bq,wrap_i64 (by omega) (by omega)];rfl
  have d2:=ATo (a0:=a0) (a1:=a1) (a2:=a2) (a3:=a3) (a4:=a4) (a5:=a5) (a6:=a6) (fp:=fp) (fn:=fn) (at_:=at_) (ms:=ms) hk (fb:=fb) (b:=b) (fd:=fd) (fs:=fs) (d:=d) (s:=s) (by omega) (by omega) hf hf2 (hx _ (List.getElem_mem h))
  obtain⟨_,_,_,_,hln⟩:=Eb hk.job at_ (hx _ (List.getElem_mem h))
  rw[List.drop_eq_getElem_cons h,Bg]
  by_cases hq:(AV k.g k.j at_ l[i]).2.2=0
  ·obtain⟨fd',fs',hf',hf2',nx⟩:=ih (i+1) .own (if fs= .nil∧(AV k.g k.j at_ l[i]).2.1=[]then .nil else .own) (d++[(AV k.g k.j at_ l[i]).1]) (s++(AV k.g k.j at_ l[i]).2.1) (by omega) (by simp;omega) (by simp;omega) (.inl rfl) (by
    by_cases hc:fs= .nil∧(AV k.g k.j at_ l[i]).2.1=[]
    ·rw[if_pos hc]
     refine .inr ⟨rfl,?_⟩
     rcases hf2 with rfl|⟨_,rfl⟩
     ·cases hc.1
     ·rw[hc.2];rfl
    ·rw[if_neg hc];exact .inl rfl)
   refine⟨fd',fs',hf',hf2',?_⟩
   have ne:AL .neq (.int .i64 (AV k.g k.j at_ l[i]).2.2) (.int .i64 0)=some (.bool false):=by rw[b_neq];simp[hq]
   rw[if_pos hq]
   simp only[show d++(AV k.g k.j at_ l[i]).1::(Bg (AV k.g k.j at_) (l.drop (i+1))).1=d++[(AV k.g k.j at_ l[i]).1]++(Bg (AV k.g k.j at_) (l.drop (i+1))).1 by simp,
    show s++((AV k.g k.j at_ l[i]).2.1++(Bg (AV k.g k.j at_) (l.drop (i+1))).2.1)=s++(AV k.g k.j at_ l[i]).2.1++(Bg (AV k.g k.j at_) (l.drop (i+1))).2.1 by simp]
   rw[←nx,BF]
   clear ih nx hf hf2 hln hx
   generalize (if fs= .nil∧(AV k.g k.j at_ l[i]).2.1=[]then Fl.nil else Fl.own)=fz at*
   generalize AV k.g k.j at_ l[i]=q at*
   generalize l[i]=x at*
   generalize (i+1:Nat)=i2 at*
   generalize (l.length:Int)=ll at*
   generalize l.map A7=LL at*
   refine Ah ls ?_
   refine Be ?_
   refine Ah ix ?_
   refine AZ rfl ?_
   refine AZ rfl ?_
   refine AZ rfl ?_
   refine DZ d2 ?_
   refine Ae rfl ?_
   refine Ah ne ?_
   refine BP ?_
   refine Ah ad ?_
   refine Ae rfl ?_
   rfl
  ·refine⟨.own,(if fs= .nil∧(AV k.g k.j at_ l[i]).2.1=[]then .nil else .own),.inl rfl,by split<;>simp,?_⟩
   have ne:AL .neq (.int .i64 (AV k.g k.j at_ l[i]).2.2) (.int .i64 0)=some (.bool true):=by rw[b_neq];simp[hq]
   rw[if_neg hq,BF]
   clear ih hf hf2 hln hx
   generalize (if fs= .nil∧(AV k.g k.j at_ l[i]).2.1=[]then Fl.nil else Fl.own)=fz at*
   generalize AV k.g k.j at_ l[i]=q at*
   generalize l[i]=x at*
   generalize (l.length:Int)=ll at*
   generalize l.map A7=LL at*
   refine Ah ls ?_
   refine Be ?_
   refine Ah ix ?_
   refine AZ rfl ?_
   refine AZ rfl ?_
   refine AZ rfl ?_
   refine DZ d2 ?_
   refine Ae rfl ?_
   refine Ah ne ?_
   refine Be ?_
   rfl
theorem AIh (hk:WkOk k) {fb:Fl} {b:List Vtx} {l:List Vtx} (hl:l.length≤64) (hx:∀x∈l,GZ x):∃fd' fs':Fl,(fd'= .own∨fd'= .nil)∧(fs'= .own∨fs'= .nil)∧
 Cl 35 [Cb .sh l,AQs] (JH a0 a1 a2 a3 a4 a5 a6 fp fn k at_ ms fb b .nil [] .nil [])=some (.int .i64 (Bg (AV k.g k.j at_) l).2.2,JH a0 a1 a2 a3 a4 a5 a6 fp fn k at_ ms fb b fd' (Bg (AV k.g k.j at_) l).1 fs' (Bg (AV k.g k.j at_) l).2.1):=by
 obtain⟨fd',fs',hf',hf2',lp⟩:=AMS (a0:=a0) (a1:=a1) (a2:=a2) (a3:=a3) (a4:=a4) (a5:=a5) (a6:=a6) (fp:=fp) (fn:=fn) (at_:=at_) (ms:=ms) hk (fb:=fb) (b:=b) hl hx l.length 0 .nil .nil [] [] (by omega) (Nat.le_refl 0) (by simp) (.inr ⟨rfl,rfl⟩) (.inr ⟨rfl,rfl⟩)
 have lL:EJ (Cb .sh l)=some (.int .i64 (l.length:Int)):=by show some _=_;rw[List.length_map]
 refine⟨fd',fs',hf',hf2',?_⟩
 rw[List.drop_zero,List.nil_append,List.nil_append]at lp
 rw[←lp,JS]
 exact AA lL _
theorem AMT (hk:WkOk k) (hfn:fn= .own∨fn= .nil∨fn= .sh) {fb fd fs:Fl} (hfd:fd= .own∨fd= .nil) {b:List Vtx} (cc:V) (co:List UInt8) (ha: -1000000≤at_∧at_≤1000000):∀(m i:Nat) (f:Fl) (bs:List (List UInt8)),i+m=(EN k at_ ms).length→bs.length≤i→(f= .own∨f= .nil∧bs=[])→
 LW (.ref 8 [] 30) (.ref 9 [] 3) (.ref 11 [] 41) (.ref 13 [] 48) (.ref 16 [] 41) (vBs .sh (EN k at_ ms)) (.int .i64 ((EN k at_ ms).length:Int)) (.int .i64 (i:Int)) 8 (JH a0 a1 a2 a3 a4 a5 a6 fp fn k at_ ms fb b fd (DF k at_ ms).1 fs (DF k at_ ms).2.1++[cc,JF 0 co f bs])=
  some (JF 0 co .sh (bs++((EN k at_ ms).drop i).map fun l=>(Ci l).1),[a0,a1,a2,a3,a4,a5,a6,Dq fn.wk fd.wk (ZM k at_ ms)]):=by
 have hO:=I4 hk at_ ms
 generalize hOO:EN k at_ ms=O at*
 intro m
 induction m with
 |zero=>
  intro i f bs hi hb hf
  have ls:AL .lss (.int .i64 (i:Int)) (.int .i64 (O.length:Int))=some (.bool false):=by rw[b_lss,decide_eq_false (by omega)]
  have ad:AL .add (.int .i64 at_) (.int .i64 1)=some (.int .i64 (at_+1)):=by rw[Bq,wrap_i64 (by omega) (by omega)]
  have pl:Iu (bs.map V.str)=true:=DC (fun _=>rfl) bs
  have pk:(vG .sh k.g).pl=true:=by simp only[go_sem]
  rw[List.drop_eq_nil_of_le (by omega),List.map_nil,List.append_nil,Ep]
  unfold ZM
  generalize (DF k at_ ms).1=dn at*
  generalize (DF k at_ ms).2.1=sn at*
  clear hOO hO hk
  rcases hfn with rfl|rfl|rfl
  all_goals rcases hfd with rfl|rfl
  all_goals refine Ah ls ?_
  all_goals refine BP ?_
  all_goals refine AZ rfl ?_
  all_goals refine Ae rfl ?_
  all_goals refine AZ rfl ?_
  all_goals refine Ae rfl ?_
  all_goals refine AZ rfl ?_
  all_goals refine Ae rfl ?_
  all_goals iterate 5 refine AZ rfl ?_
  all_goals refine Ae rfl ?_
  all_goals refine AZ rfl ?_
  all_goals refine Ae rfl ?_
  all_goals refine AZ rfl ?_
  all_goals refine AZ ad ?_
  all_goals iterate 2 refine AZ rfl ?_
  all_goals refine Ae rfl ?_
  all_goals iterate 3 refine AZ rfl ?_
  all_goals refine Ae rfl ?_
  all_goals iterate 3 refine AZ rfl ?_
  all_goals refine Ae rfl ?_
  all_goals iterate 8 refine AZ rfl ?_
  all_goals rcases hf with rfl|⟨rfl,rfl⟩
  all_goals rfl
 |succ m ih=>
  intro i f bs hi hb hf
  have h:i<O.length:=by omega
  have ls:AL .lss (.int .i64 (i:Int)) (.int .i64 (O.length:Int))=some (.bool true):=by rw[b_lss,decide_eq_true (by omega)]
  have ho:=hO.2
  have ix:D9 36 (vBs .sh O) (.int .i64 (i:Int))=some (.rop 36 (mB O[i])):=by
   rw[DL,List.getElem?_map,List.getElem?_eq_getElem h];rfl
  have ad:AL .add (.int .i64 (i:Int)) (.int .i64 1)=some (.int .i64 ((i+1:Nat):Int)):=by rw[Bq,wrap_i64 (by omega) (by omega)];rfl
  have hm:=hO.1 _ (List.getElem_mem h)
  have pt:=QB (f:= .sh) hm.1 hm.2
  have ap:∀(h:List V),FU 9 AM.tyS false h (.lst 9 f (bs.map V.str)) (.lst 9 .own [.str (Ci O[i]).1])=some (.lst 9 .own ((bs++[(Ci O[i]).1]).map V.str)):=fun h=>by
   have cl:AU [V.str (Ci O[i]).1]=true:=rfl
   have ty:[V.str (Ci O[i]).1].all AM.tyS=true:=rfl
   rw[List.map_append]
   rcases hf with rfl|⟨rfl,rfl⟩
   ·rw[Bj cl ty (by simp;omega)];rfl
   ·rw[List.map_nil,Bf cl ty (by simp)];rfl
  have nx:=ih (i+1) .own (bs++[(Ci O[i]).1]) (by omega) (by simp;omega) (.inl rfl)
  rw[List.drop_eq_getElem_cons h,List.map_cons,show bs++(Ci O[i]).1::((O.drop (i+1)).map fun l=>(Ci l).1)=bs++[(Ci O[i]).1]++(O.drop (i+1)).map (fun l=>(Ci l).1)by simp,←nx,Ep]
  clear ih nx hf hm hO hOO
  generalize (DF k at_ ms).1=dn at*
  generalize (DF k at_ ms).2.1=sn at*
  generalize Ci O[i]=q at*
  generalize O[i]=o at*
  generalize (i+1:Nat)=i2 at*
  generalize (O.length:Int)=ll at*
  generalize O.map mB=OL at*
  refine Ah ls ?_
  refine Be ?_
  refine Ah ix ?_
  refine AZ (x:=mB o) rfl ?_
  refine AZ (show Cl 43 _ _=_ from pt) ?_
  iterate 5 refine AZ rfl ?_
  refine AZ (ap _) ?_
  iterate 2 refine AZ rfl ?_
  exact AA ad _
theorem AIi (fl:Fl) (hfl:fl= .sh∨fl= .own) (hb:at_≠k.step∨k.j.steps≤at_):Cl 11 [.ref 7 [] 68,.int .i64 at_,BZ .sh ms] [a0,a1,a2,a3,a4,a5,a6,Dq fp fn k]=some (JF 131 [] .sh [],[a0,a1,a2,a3,a4,a5,a6,Dq fp fn k]):=by
 rw[JR]
 iterate 3 refine Ae rfl ?_
 refine FV ?_
 have fin:∀X:Rv,X=some (JF 131 [] .sh [],[a0,a1,a2,a3,a4,a5,a6,Dq fp fn k])→X=some (JF 131 [] .sh [],[a0,a1,a2,a3,a4,a5,a6,Dq fp fn k]):=fun _ h=>h
 iterate 5 refine AZ rfl ?_
 by_cases h1:at_=k.step
 ·have ne:AL .neq (.int .i64 at_) (.int .i64 k.step)=some (.bool false):=by rw[b_neq];simp[h1]
  have ge:AL .geq (.int .i64 at_) (.int .i64 k.j.steps)=some (.bool true):=by rw[b_geq,decide_eq_true (by rcases hb with h|h;exact absurd h1 h;exact h)]
  refine AZ ne ?_
  refine BP ?_
  iterate 6 refine AZ rfl ?_
  refine AZ ge ?_
  refine Be ?_
  iterate 3 refine AZ rfl ?_
  rfl
 ·have ne:AL .neq (.int .i64 at_) (.int .i64 k.step)=some (.bool true):=by rw[b_neq];simp[h1]
  refine AZ ne ?_
  refine Be ?_
  refine Be ?_
  iterate 3 refine AZ rfl ?_
  rfl
theorem AMU (hk:WkOk k) (hfn:fn= .own∨fn= .nil∨fn= .sh) (hms:ms.length≤1000000) (h1:at_=k.step) (h2:at_<k.j.steps) (h3:0≤at_):∃fd:Fl,(fd= .sh∨fd= .nil)∧
 Cl 11 [.ref 7 [] 68,.int .i64 at_,BZ .sh ms] [a0,a1,a2,a3,a4,a5,a6,Dq fp fn k]=some (if JI k at_ ms=0 then(JF 0 (doC k at_ ms) .sh ((EN k at_ ms).map fun l=>(Ci l).1),[a0,a1,a2,a3,a4,a5,a6,Dq fn.wk fd (ZM k at_ ms)])else(JF (JI k at_ ms) [] .sh [],[a0,a1,a2,a3,a4,a5,a6,Dq fp fn k])):=by
 have hst:k.j.steps≤64:=by have:=hk.job;simp only[Dz,decide_eq_true_eq]at this;exact this.2.2.2.2.2
 obtain⟨b1,b2⟩:=Ry hk at_ ms
 obtain⟨d1,d2,d3,d4⟩:=OC hk at_ ms
 have hO:=I4 hk at_ ms
 obtain⟨fb,hfb,e1⟩:=AIg (a0:=a0) (a1:=a1) (a2:=a2) (a3:=a3) (a4:=a4) (a5:=a5) (a6:=a6) (fp:=fp) (fn:=fn) (k:=k) (at_:=at_) hms hk.len
 have hb:DY (BK k.j ms) k.now=FT k at_ ms:=rfl
 rw[hb]at e1
 obtain⟨fd,fs,hfd,hfs,e2⟩:=AIh (a0:=a0) (a1:=a1) (a2:=a2) (a3:=a3) (a4:=a4) (a5:=a5) (a6:=a6) (fp:=fp) (fn:=fn) (at_:=at_) (ms:=ms) hk (fb:=fb) (b:=(FT k at_ ms).1) b1 b2
 have hd:Bg (AV k.g k.j at_) (FT k at_ ms).1=DF k at_ ms:=rfl
 rw[hd]at e2
 have sp:=MV (N:=k.N) (l:=(DF k at_ ms).2.1) hk.n1 hk.n64 (by omega) d3
 rw[show MS k.N (DF k at_ ms).2.1=EN k at_ ms from rfl]at sp
 have mk:=QE (w:=(k.w:Int)) (st:=at_) ⟨by have:=hk.w;have:=hk.n64;omega,by have:=hk.w;have:=hk.n64;omega⟩ ⟨by omega,by omega⟩ d4 (by omega) hO
 have hcm:Je (QD (TT (k.w:Int) at_ (DF k at_ ms).1 (EN k at_ ms))).1:=by
  unfold QD
  split
  ·exact XK ⟨by have:=hk.w;have:=hk.n64;omega,by have:=hk.w;have:=hk.n64;omega⟩ ⟨by omega,by omega⟩ _ hO
  ·exact ADO
 have cp:=QC hcm
 have lp:=AMT (a0:=a0) (a1:=a1) (a2:=a2) (a3:=a3) (a4:=a4) (a5:=a5) (a6:=a6) (fp:=fp) (at_:=at_) (ms:=ms) hk hfn (fb:=fb) (fd:=fd) (fs:=fs) hfd (b:=(FT k at_ ms).1) (vC .sh (QD (TT (k.w:Int) at_ (DF k at_ ms).1 (EN k at_ ms))).1) (doC k at_ ms) (by omega) (EN k at_ ms).length 0 .nil [] (by omega) (Nat.le_refl 0) (.inr ⟨rfl,rfl⟩)
 rw[List.drop_zero,List.nil_append]at lp
 refine⟨fd.wk,by rcases hfd with rfl|rfl<;>simp[Fl.wk],?_⟩
 have ne:AL .neq (.int .i64 at_) (.int .i64 k.step)=some (.bool false):=by rw[b_neq];simp[h1]
 have ge:AL .geq (.int .i64 at_) (.int .i64 k.j.steps)=some (.bool false):=by rw[b_geq,decide_eq_false (by omega)]
 have lO:EJ (.lst 36 .sh ((EN k at_ ms).map (BZ .sh)))=some (.int .i64 ((EN k at_ ms).length:Int)):=by show some _=_;rw[List.length_map]
 have n0:∀z:Int,z≠0→AL .neq (.int .i64 z) (.int .i64 0)=some (.bool true):=fun z hz=>by rw[b_neq];simp[hz]
 have e0:∀z:Int,z≠0→AL .eql (.int .i64 z) (.int .i64 0)=some (.bool false):=fun z hz=>by rw[b_eql,decide_eq_false hz]
 have e1':Cl 35 (AP [(Cb fn k.now).weak,AQr]) (JH a0 a1 a2 a3 a4 a5 a6 fp fn k at_ ms .nil [] .nil [] .nil [])=some (.int .i64 (FT k at_ ms).2,JH a0 a1 a2 a3 a4 a5 a6 fp fn k at_ ms fb (FT k at_ ms).1 .nil [] .nil []):=by rcases hfn with rfl|rfl|rfl<;>exact e1
 have e2':Cl 35 (AP [(Cb fb (FT k at_ ms).1).weak,AQs]) (JH a0 a1 a2 a3 a4 a5 a6 fp fn k at_ ms fb (FT k at_ ms).1 .nil [] .nil [])=some (.int .i64 (DF k at_ ms).2.2,JH a0 a1 a2 a3 a4 a5 a6 fp fn k at_ ms fb (FT k at_ ms).1 fd (DF k at_ ms).1 fs (DF k at_ ms).2.1):=by rcases hfb with rfl|rfl<;>exact e2
 have sp':∀H,Cl 40 (AB H [.int .i64 (k.N:Int),(V.lst 103 fs ((DF k at_ ms).2.1.map Ac)).weak]) []=some (.tup [.lst 36 .sh ((EN k at_ ms).map (BZ .sh)),.int .i64 0],[]):=fun H=>by rcases hfs with rfl|rfl<;>exact sp
 have mk':∀H,Cl 41 (AB H [.int .i64 (k.w:Int),.int .i64 at_,(Cb fd (DF k at_ ms).1).weak,(V.lst 36 .sh ((EN k at_ ms).map (BZ .sh))).weak]) []=some (vGC (QD (TT (k.w:Int) at_ (DF k at_ ms).1 (EN k at_ ms))),[]):=fun H=>by rcases hfd with rfl|rfl<;>exact mk
 have lw:LQ true [.int .i64 (k.w:Int),.int .i64 at_,(Cb fd (DF k at_ ms).1).weak,(V.lst 36 .sh ((EN k at_ ms).map (BZ .sh))).weak]=true:=by rcases hfd with rfl|rfl<;>rfl
 rw[JR]
 iterate 3 refine Ae rfl ?_
 refine FV ?_
 iterate 5 refine AZ rfl ?_
 refine AZ ne ?_
 refine BP ?_
 iterate 6 refine AZ rfl ?_
 refine AZ ge ?_
 refine BP ?_
 iterate 3 refine AZ rfl ?_
 refine AZ rfl ?_
 refine AZ rfl ?_
 refine AZ e1' ?_
 by_cases q1:(FT k at_ ms).2=0
 ·have q1':AL .eql (.int .i64 (FT k at_ ms).2) (.int .i64 0)=some (.bool true):=by rw[b_eql,decide_eq_true q1]
  refine AZ q1' ?_
  refine FV ?_
  refine Be ?_
  refine AZ rfl ?_
  refine AZ rfl ?_
  refine AZ e2' ?_
  have qe:JI k at_ ms=(DF k at_ ms).2.2:=by unfold JI;rw[if_pos q1]
  by_cases q2:(DF k at_ ms).2.2=0
  ·have q2':AL .neq (.int .i64 (DF k at_ ms).2.2) (.int .i64 0)=some (.bool false):=by rw[b_neq];simp[q2]
   refine AZ q2' ?_
   refine BP ?_
   rw[if_pos (by rw[qe];exact q2),←lp]
   clear lp e1 e2 hO b1 b2 d3 d4 hb hd
   unfold doC at*
   generalize QD (TT (k.w:Int) at_ (DF k at_ ms).1 (EN k at_ ms))=cq at*
   generalize MW cq.1=pq at*
   iterate 5 refine AZ rfl ?_
   refine AZ (sp' _) ?_
   iterate 8 refine AZ rfl ?_
   refine Ae lw ?_
   refine AZ (mk' _) ?_
   have pc:(vC .sh cq.1).pl=true:=by simp only[go_sem]
   have stc:∀(L:List V) (z:V),DJ (tyG tCm) 94 (L++[z]) (.ref L.length [] 94) (vC .sh cq.1).weak=some (L++[vC .sh cq.1]):=fun L z=>by rw[(V.PF _ pc).weak];exact Gq rfl ((V.PF _ pc).under _) _
   have cp':∀L,Cl 42 (AB L [(vC .sh cq.1).weak]) []=some (.tup [.str pq.1,.int .i64 (pq.2:Int)],[]):=fun L=>by rw[(V.PF _ pc).weak,AB,AB,(V.PF _ pc).reify];exact cp
   iterate 2 refine AZ rfl ?_
   refine AZ (stc _ _) ?_
   refine AZ rfl ?_
   refine AZ (cp' _) ?_
   iterate 4 refine AZ rfl ?_
   refine AZ lO ?_
   rfl
  ·have q2':AL .neq (.int .i64 (DF k at_ ms).2.2) (.int .i64 0)=some (.bool true):=n0 _ q2
   refine AZ q2' ?_
   refine Be ?_
   rw[if_neg (by rw[qe];exact q2),qe]
   iterate 3 refine AZ rfl ?_
   rfl
 ·have qe:JI k at_ ms=(FT k at_ ms).2:=by unfold JI;rw[if_neg q1]
  refine AZ (e0 _ q1) ?_
  refine FV ?_
  refine BP ?_
  refine AZ (n0 _ q1) ?_
  refine Be ?_
  rw[if_neg (by rw[qe];exact q1),qe]
  iterate 3 refine AZ rfl ?_
  rfl
end
end
section
open Go AM
section
variable {a0 a1 a2 a3 a5 a6 a7 a8 a9 a10:V} {fp fn:Fl} {k:Wkr} {at_:Int} {ms:List Msg}
abbrev FX (a0 a1 a2 a3 a5 a6 a7 a8 a9 a10:V) (fp fn:Fl) (k:Wkr) (at_:Int) (ms:List Msg) (fb:Fl) (b:List Vtx) (fd:Fl) (d:List Vtx) (fs:Fl) (s:List Msg):List V:=[a0,a1,a2,a3,Dq fp fn k,a5,a6,a7,a8,a9,a10,.ref 4 [] 68,.int .i64 at_,BZ .sh ms,JF 0 [] .nil [],Cb fb b,Cb fd d,.lst 103 fs (s.map Ac)]
abbrev AIj:V:= .clo 36 [.ref 11 [] 30,.ref 13 [] 36,.ref 15 [] 48]
abbrev AIk:V:= .clo 38 [.ref 11 [] 30,.ref 12 [] 3,.ref 16 [] 48,.ref 17 [] 36]
theorem AQt (hms:ms.length≤1000000) {fb:Fl} {b:List Vtx} (hb:b.length≤1000) (hf:fb= .own∨fb= .nil∧b=[]) (x:Vtx):
 Cl 36 [A7 x,.ref 11 [] 30,.ref 13 [] 36,.ref 15 [] 48] (FX a0 a1 a2 a3 a5 a6 a7 a8 a9 a10 fp fn k at_ ms fb b .nil [] .nil []++[A7 x])=some (.int .i64 (BK k.j ms x).2,FX a0 a1 a2 a3 a5 a6 a7 a8 a9 a10 fp fn k at_ ms .own (b++[(BK k.j ms x).1]) .nil [] .nil []++[A7 x]):=by
 have ca:=QA k.j.tag hms x.id (fl:= .sh) (.inl rfl)
 have ap:∀(h:List V) (y:Vtx),FU 70 (tyG Ld) false h (Cb fb b) (.lst 70 .own [A7 y])=some (Cb .own (b++[y])):=fun h y=>by
  have cl:AU [A7 y]=true:=rfl
  have ty:[A7 y].all (tyG Ld)=true:=rfl
  unfold Cb
  rw[List.map_append]
  rcases hf with rfl|⟨rfl,rfl⟩
  ·rw[Bj cl ty (by simp;omega)];rfl
  ·rw[List.map_nil,Bf cl ty (by simp)];rfl
 rw[VW]
 simp only[BK]
 generalize Es k.j.tag ms x.id=q at*
 refine Ae rfl ?_
 iterate 8 refine AZ rfl ?_
 refine AZ (show Cl 37 _ _=_ from ca) ?_
 iterate 3 refine AZ rfl ?_
 iterate 4 refine AZ rfl ?_
 iterate 3 refine AZ rfl ?_
 refine AZ (ap _ ⟨x.id,x.val,x.act,q.2.1,q.1⟩) ?_
 refine AZ rfl ?_
 rfl
theorem AIl (hms:ms.length≤1000000) {l:List Vtx} (hl:l.length≤64):∀(m i:Nat) (fb:Fl) (b:List Vtx),i+m=l.length→b.length≤i→(fb= .own∨fb= .nil∧b=[])→∃fb':Fl,(fb'= .own∨fb'= .nil)∧
 Gi AIj (Cb .sh l) (.int .i64 (l.length:Int)) (.int .i64 (i:Int)) 18 (FX a0 a1 a2 a3 a5 a6 a7 a8 a9 a10 fp fn k at_ ms fb b .nil [] .nil [])=some (.int .i64 (DY (BK k.j ms) (l.drop i)).2,FX a0 a1 a2 a3 a5 a6 a7 a8 a9 a10 fp fn k at_ ms fb' (b++(DY (BK k.j ms) (l.drop i)).1) .nil [] .nil []):=by
 intro m
 induction m with
 |zero=>
  intro i fb b hi hb hf
  have ls:AL .lss (.int .i64 (i:Int)) (.int .i64 (l.length:Int))=some (.bool false):=by rw[b_lss,decide_eq_false (by omega)]
  refine⟨fb,by rcases hf with rfl|⟨rfl,_⟩<;>simp,?_⟩
  rw[List.drop_eq_nil_of_le (by omega),BF]
  simp only[DY,List.append_nil]
  refine Ah ls ?_
  rfl
 |succ m ih=>
  intro i fb b hi hb hf
  have h:i<l.length:=by omega
  have ls:AL .lss (.int .i64 (i:Int)) (.int .i64 (l.length:Int))=some (.bool true):=by rw[b_lss,decide_eq_true (by omega)]
  have ix:D9 70 (Cb .sh l) (.int .i64 (i:Int))=some (.rop 70 (A7 l[i])):=by
   rw[DL,List.getElem?_map,List.getElem?_eq_getElem h];rfl
  have ad:AL .add (.int .i64 (i:Int)) (.int .i64 1)=some (.int .i64 ((i+1:Nat):Int)):=by rw[Bq,wrap_i64 (by omega) (by omega)];rfl
  have d1:=AQt (a0:=a0) (a1:=a1) (a2:=a2) (a3:=a3) (a5:=a5) (a6:=a6) (a7:=a7) (a8:=a8) (a9:=a9) (a10:=a10) (fp:=fp) (fn:=fn) (k:=k) (at_:=at_) hms (fb:=fb) (b:=b) (by omega) hf l[i]
  rw[List.drop_eq_getElem_cons h,DY]
  by_cases hq:(BK k.j ms l[i]).2=0
  ·obtain⟨fb',hf',nx⟩:=ih (i+1) .own (b++[(BK k.j ms l[i]).1]) (by omega) (by simp;omega) (.inl rfl)
   refine⟨fb',hf',?_⟩
   have ne:AL .neq (.int .i64 (BK k.j ms l[i]).2) (.int .i64 0)=some (.bool false):=by rw[b_neq];simp[hq]
   rw[if_pos hq]
   simp only[show b++(BK k.j ms l[i]).1::(DY (BK k.j ms) (l.drop (i+1))).1=b++[(BK k.j ms l[i]).1]++(DY (BK k.j ms) (l.drop (i+1))).1 by simp]
   rw[←nx,BF]
   clear ih nx hf
   generalize BK k.j ms l[i]=q at*
   generalize l[i]=x at*
   generalize (i+1:Nat)=i2 at*
   generalize (l.length:Int)=ll at*
   generalize l.map A7=LL at*
   refine Ah ls ?_
   refine Be ?_
   refine Ah ix ?_
   refine AZ rfl ?_
   refine AZ rfl ?_
   refine AZ rfl ?_
   refine DZ d1 ?_
   refine Ae rfl ?_
   refine Ah ne ?_
   refine BP ?_
   refine Ah ad ?_
   refine Ae rfl ?_
   rfl
  ·refine⟨.own,.inl rfl,?_⟩
   have ne:AL .neq (.int .i64 (BK k.j ms l[i]).2) (.int .i64 0)=some (.bool true):=by rw[b_neq];simp[hq]
   rw[if_neg hq,BF]
   clear ih hf
   generalize BK k.j ms l[i]=q at*
   generalize l[i]=x at*
   generalize (l.length:Int)=ll at*
   generalize l.map A7=LL at*
   refine Ah ls ?_
   refine Be ?_
   refine Ah ix ?_
   refine AZ rfl ?_
   refine AZ rfl ?_
   refine AZ rfl ?_
   refine DZ d1 ?_
   refine Ae rfl ?_
   refine Ah ne ?_
   refine Be ?_
   rfl
theorem AEO (hms:ms.length≤1000000) {l:List Vtx} (hl:l.length≤64):∃fb':Fl,(fb'= .own∨fb'= .nil)∧
 Cl 35 [Cb .sh l,AIj] (FX a0 a1 a2 a3 a5 a6 a7 a8 a9 a10 fp fn k at_ ms .nil [] .nil [] .nil [])=some (.int .i64 (DY (BK k.j ms) l).2,FX a0 a1 a2 a3 a5 a6 a7 a8 a9 a10 fp fn k at_ ms fb' (DY (BK k.j ms) l).1 .nil [] .nil []):=by
 obtain⟨fb',hf',lp⟩:=AIl (a0:=a0) (a1:=a1) (a2:=a2) (a3:=a3) (a5:=a5) (a6:=a6) (a7:=a7) (a8:=a8) (a9:=a9) (a10:=a10) (fp:=fp) (fn:=fn) (k:=k) (at_:=at_) hms hl l.length 0 .nil [] (by omega) (Nat.le_refl 0) (.inr ⟨rfl,rfl⟩)
 have lL:EJ (Cb .sh l)=some (.int .i64 (l.length:Int)):=by show some _=_;rw[List.length_map]
 refine⟨fb',hf',?_⟩
 rw[List.drop_zero,List.nil_append]at lp
 rw[←lp,JS]
 exact AA lL _
theorem AQu (hk:WkOk k) {fb:Fl} {b:List Vtx} {fd fs:Fl} {d:List Vtx} {s:List Msg} (hd:d.length≤1000) (hs:s.length≤900000) (hf:fd= .own∨fd= .nil∧d=[]) (hf2:fs= .own∨fs= .nil∧s=[]) {x:Vtx} (hx:GZ x):
 Cl 38 [A7 x,.ref 11 [] 30,.ref 12 [] 3,.ref 16 [] 48,.ref 17 [] 36] (FX a0 a1 a2 a3 a5 a6 a7 a8 a9 a10 fp fn k at_ ms fb b fd d fs s++[A7 x])=some (.int .i64 (AV k.g k.j at_ x).2.2,FX a0 a1 a2 a3 a5 a6 a7 a8 a9 a10 fp fn k at_ ms fb b .own (d++[(AV k.g k.j at_ x).1]) (if fs= .nil∧(AV k.g k.j at_ x).2.1=[]then .nil else .own) (s++(AV k.g k.j at_ x).2.1)++[A7 x]):=by
 obtain⟨st,_,_,_,hln⟩:=Eb hk.job at_ hx
 have ap:∀(h:List V) (y:Vtx),FU 70 (tyG Ld) false h (Cb fd d) (.lst 70 .own [A7 y])=some (Cb .own (d++[y])):=fun h y=>by
  have cl:AU [A7 y]=true:=rfl
  have ty:[A7 y].all (tyG Ld)=true:=rfl
  unfold Cb
  rw[List.map_append]
  rcases hf with rfl|⟨rfl,rfl⟩
  ·rw[Bj cl ty (by simp;omega)];rfl
  ·rw[List.map_nil,Bf cl ty (by simp)];rfl
 have ap2:∀(h:List V) (u:List Msg),u.length≤1000→FU 103 (tyG 102) false h (.lst 103 fs (s.map Ac)) (BZ .sh u)=some (.lst 103 (if fs= .nil∧u=[]then .nil else .own) ((s++u).map Ac)):=fun h u hu=>by
  have cl:AU (u.map Ac)=true:=F6 u
  have ty:(u.map Ac).all (tyG 102)=true:=all_map (fun _=>rfl) u
  rw[List.map_append]
  rcases hf2 with rfl|⟨rfl,rfl⟩
  ·rw[BZ,Bj cl ty (by simp;omega)]
   simp only[reduceCtorEq,false_and,if_false];rfl
  ·cases u with
   |nil=>rfl
   |cons y u=>
    rw[BZ,List.map_nil,List.map_cons,Bf (by simpa using cl) (by simpa using ty) (by simp at hu⊢;omega)]
    simp;rfl
 rw[VY]
 generalize AV k.g k.j at_ x=q at*
 refine Ae rfl ?_
 iterate 10 refine AZ rfl ?_
 refine Ae rfl ?_
 refine AZ (show Cl 39 _ _=_ from st) ?_
 iterate 4 refine AZ rfl ?_
 refine Ae rfl ?_
 refine Ae rfl ?_
 refine AZ rfl ?_
 refine Ae rfl ?_
 iterate 2 refine AZ rfl ?_
 refine Ae (by rcases hf with rfl|⟨rfl,rfl⟩<;>rfl) ?_
 refine AZ (ap _ q.1) ?_
 refine Ae rfl ?_
 refine AZ rfl ?_
 refine AZ (ap2 _ q.2.1 hln) ?_
 refine AZ rfl ?_
 refine AZ (x:=FX a0 a1 a2 a3 a5 a6 a7 a8 a9 a10 fp fn k at_ ms fb b .own (d++[q.1]) (if fs= .nil∧q.2.1=[]then .nil else .own) (s++q.2.1)++[A7 x]++[A7 x]++[A7 q.1]) (by split<;>rfl) ?_
 rfl
theorem AIm (hk:WkOk k) {fb:Fl} {b:List Vtx} {l:List Vtx} (hl:l.length≤64) (hx:∀x∈l,GZ x):∀(m i:Nat) (fd fs:Fl) (d:List Vtx) (s:List Msg),i+m=l.length→d.length≤i→s.length≤1000*i→(fd= .own∨fd= .nil∧d=[])→(fs= .own∨fs= .nil∧s=[])→∃fd' fs':Fl,(fd'= .own∨fd'= .nil)∧(fs'= .own∨fs'= .nil)∧
 Gi AIk (Cb .sh l) (.int .i64 (l.length:Int)) (.int .i64 (i:Int)) 18 (FX a0 a1 a2 a3 a5 a6 a7 a8 a9 a10 fp fn k at_ ms fb b fd d fs s)=some (.int .i64 (Bg (AV k.g k.j at_) (l.drop i)).2.2,FX a0 a1 a2 a3 a5 a6 a7 a8 a9 a10 fp fn k at_ ms fb b fd' (d++(Bg (AV k.g k.j at_) (l.drop i)).1) fs' (s++(Bg (AV k.g k.j at_) (l.drop i)).2.1)):=by
 intro m
 induction m with
 |zero=>
  intro i fd fs d s hi hd hs hf hf2
  have ls:AL .lss (.int .i64 (i:Int)) (.int .i64 (l.length:Int))=some (.bool false):=by rw[b_lss,decide_eq_false (by omega)]
  refine⟨fd,fs,by rcases hf with rfl|⟨rfl,_⟩<;>simp,by rcases hf2 with rfl|⟨rfl,_⟩<;>simp,?_⟩
  rw[List.drop_eq_nil_of_le (by omega),BF]
  simp only[Bg,List.append_nil]
  refine Ah ls ?_
  rfl
 |succ m ih=>
  intro i fd fs d s hi hd hs hf hf2
  have h:i<l.length:=by omega
  have ls:AL .lss (.int .i64 (i:Int)) (.int .i64 (l.length:Int))=some (.bool true):=by rw[b_lss,decide_eq_true (by omega)]
  have ix:D9 70 (Cb .sh l) (.int .i64 (i:Int))=some (.rop 70 (A7 l[i])):=by
   rw[DL,List.getElem?_map,List.getElem?_eq_getElem h];rfl
  have ad:AL .add (.int .i64 (i:Int)) (.int .i64 1)=some (.int .i64 ((i+1:Nat):Int)):=by rw[Bq,wrap_i64 (by omega) (by omega)];rfl
  have d2:=AQu (a0:=a0) (a1:=a1) (a2:=a2) (a3:=a3) (a5:=a5) (a6:=a6) (a7:=a7) (a8:=a8) (a9:=a9) (a10:=a10) (fp:=fp) (fn:=fn) (at_:=at_) (ms:=ms) hk (fb:=fb) (b:=b) (fd:=fd) (fs:=fs) (d:=d) (s:=s) (by omega) (by omega) hf hf2 (hx _ (List.getElem_mem h))
  obtain⟨_,_,_,_,hln⟩:=Eb hk.job at_ (hx _ (List.getElem_mem h))
  rw[List.drop_eq_getElem_cons h,Bg]
  by_cases hq:(AV k.g k.j at_ l[i]).2.2=0
  ·obtain⟨fd',fs',hf',hf2',nx⟩:=ih (i+1) .own (if fs= .nil∧(AV k.g k.j at_ l[i]).2.1=[]then .nil else .own) (d++[(AV k.g k.j at_ l[i]).1]) (s++(AV k.g k.j at_ l[i]).2.1) (by omega) (by simp;omega) (by simp;omega) (.inl rfl) (by
    by_cases hc:fs= .nil∧(AV k.g k.j at_ l[i]).2.1=[]
    ·rw[if_pos hc]
     refine .inr ⟨rfl,?_⟩
     rcases hf2 with rfl|⟨_,rfl⟩
     ·cases hc.1
     ·rw[hc.2];rfl
    ·rw[if_neg hc];exact .inl rfl)
   refine⟨fd',fs',hf',hf2',?_⟩
   have ne:AL .neq (.int .i64 (AV k.g k.j at_ l[i]).2.2) (.int .i64 0)=some (.bool false):=by rw[b_neq];simp[hq]
   rw[if_pos hq]
   simp only[show d++(AV k.g k.j at_ l[i]).1::(Bg (AV k.g k.j at_) (l.drop (i+1))).1=d++[(AV k.g k.j at_ l[i]).1]++(Bg (AV k.g k.j at_) (l.drop (i+1))).1 by simp,
    show s++((AV k.g k.j at_ l[i]).2.1++(Bg (AV k.g k.j at_) (l.drop (i+1))).2.1)=s++(AV k.g k.j at_ l[i]).2.1++(Bg (AV k.g k.j at_) (l.drop (i+1))).2.1 by simp]
   rw[←nx,BF]
   clear ih nx hf hf2 hln hx
   generalize (if fs= .nil∧(AV k.g k.j at_ l[i]).2.1=[]then Fl.nil else Fl.own)=fz at*
   generalize AV k.g k.j at_ l[i]=q at*
   generalize l[i]=x at*
   generalize (i+1:Nat)=i2 at*
   generalize (l.length:Int)=ll at*
   generalize l.map A7=LL at*
   refine Ah ls ?_
   refine Be ?_
   refine Ah ix ?_
   refine AZ rfl ?_
   refine AZ rfl ?_
   refine AZ rfl ?_
   refine DZ d2 ?_
   refine Ae rfl ?_
   refine Ah ne ?_
   refine BP ?_
   refine Ah ad ?_
   refine Ae rfl ?_
   rfl
  ·refine⟨.own,(if fs= .nil∧(AV k.g k.j at_ l[i]).2.1=[]then .nil else .own),.inl rfl,by split<;>simp,?_⟩
   have ne:AL .neq (.int .i64 (AV k.g k.j at_ l[i]).2.2) (.int .i64 0)=some (.bool true):=by rw[b_neq];simp[hq]
   rw[if_neg hq,BF]
   clear ih hf hf2 hln hx
   generalize (if fs= .nil∧(AV k.g k.j at_ l[i]).2.1=[]then Fl.nil else Fl.own)=fz at*
   generalize AV k.g k.j at_ l[i]=q at*
   generalize l[i]=x at*
   generalize (l.length:Int)=ll at*
   generalize l.map A7=LL at*
   refine Ah ls ?_
   refine Be ?_
   refine Ah ix ?_
   refine AZ rfl ?_
   refine AZ rfl ?_
   refine AZ rfl ?_
   refine DZ d2 ?_
   refine Ae rfl ?_
   refine Ah ne ?_
   refine Be ?_
   rfl
theorem AEP (hk:WkOk k) {fb:Fl} {b:List Vtx} {l:List Vtx} (hl:l.length≤64) (hx:∀x∈l,GZ x):∃fd' fs':Fl,(fd'= .own∨fd'= .nil)∧(fs'= .own∨fs'= .nil)∧
 Cl 35 [Cb .sh l,AIk] (FX a0 a1 a2 a3 a5 a6 a7 a8 a9 a10 fp fn k at_ ms fb b .nil [] .nil [])=some (.int .i64 (Bg (AV k.g k.j at_) l).2.2,FX a0 a1 a2 a3 a5 a6 a7 a8 a9 a10 fp fn k at_ ms fb b fd' (Bg (AV k.g k.j at_) l).1 fs' (Bg (AV k.g k.j at_) l).2.1):=by
 obtain⟨fd',fs',hf',hf2',lp⟩:=AIm (a0:=a0) (a1:=a1) (a2:=a2) (a3:=a3) (a5:=a5) (a6:=a6) (a7:=a7) (a8:=a8) (a9:=a9) (a10:=a10) (fp:=fp) (fn:=fn) (at_:=at_) (ms:=ms) hk (fb:=fb) (b:=b) hl hx l.length 0 .nil .nil [] [] (by omega) (Nat.le_refl 0) (by simp) (.inr ⟨rfl,rfl⟩) (.inr ⟨rfl,rfl⟩)
 have lL:EJ (Cb .sh l)=some (.int .i64 (l.length:Int)):=by show some _=_;rw[List.length_map]
 refine⟨fd',fs',hf',hf2',?_⟩
 rw[List.drop_zero,List.nil_append,List.nil_append]at lp
 rw[←lp,JS]
 exact AA lL _
theorem AIn (hk:WkOk k) (hfn:fn= .own∨fn= .nil∨fn= .sh) {fb fd fs:Fl} (hfd:fd= .own∨fd= .nil) {b:List Vtx} (cc:V) (co:List UInt8) (ha: -1000000≤at_∧at_≤1000000):∀(m i:Nat) (f:Fl) (bs:List (List UInt8)),i+m=(EN k at_ ms).length→bs.length≤i→(f= .own∨f= .nil∧bs=[])→
 LW (.ref 11 [] 30) (.ref 12 [] 3) (.ref 14 [] 41) (.ref 16 [] 48) (.ref 19 [] 41) (vBs .sh (EN k at_ ms)) (.int .i64 ((EN k at_ ms).length:Int)) (.int .i64 (i:Int)) 11 (FX a0 a1 a2 a3 a5 a6 a7 a8 a9 a10 fp fn k at_ ms fb b fd (DF k at_ ms).1 fs (DF k at_ ms).2.1++[cc,JF 0 co f bs])=
  some (JF 0 co .sh (bs++((EN k at_ ms).drop i).map fun l=>(Ci l).1),[a0,a1,a2,a3,Dq fn.wk fd.wk (ZM k at_ ms),a5,a6,a7,a8,a9,a10]):=by
 have hO:=I4 hk at_ ms
 generalize hOO:EN k at_ ms=O at*
 intro m
 induction m with
 |zero=>
  intro i f bs hi hb hf
  have ls:AL .lss (.int .i64 (i:Int)) (.int .i64 (O.length:Int))=some (.bool false):=by rw[b_lss,decide_eq_false (by omega)]
  have ad:AL .add (.int .i64 at_) (.int .i64 1)=some (.int .i64 (at_+1)):=by rw[Bq,wrap_i64 (by omega) (by omega)]
  have pl:Iu (bs.map V.str)=true:=DC (fun _=>rfl) bs
  have pk:(vG .sh k.g).pl=true:=by simp only[go_sem]
  rw[List.drop_eq_nil_of_le (by omega),List.map_nil,List.append_nil,Ep]
  unfold ZM
  generalize (DF k at_ ms).1=dn at*
  generalize (DF k at_ ms).2.1=sn at*
  clear hOO hO hk
  rcases hfn with rfl|rfl|rfl
  all_goals rcases hfd with rfl|rfl
  all_goals refine Ah ls ?_
  all_goals refine BP ?_
  all_goals refine AZ rfl ?_
  all_goals refine Ae rfl ?_
  all_goals refine AZ rfl ?_
  all_goals refine Ae rfl ?_
  all_goals refine AZ rfl ?_
  all_goals refine Ae rfl ?_
  all_goals iterate 5 refine AZ rfl ?_
  all_goals refine Ae rfl ?_
  all_goals refine AZ rfl ?_
  all_goals refine Ae rfl ?_
  all_goals refine AZ rfl ?_
  all_goals refine AZ ad ?_
  all_goals iterate 2 refine AZ rfl ?_
  all_goals refine Ae rfl ?_
  all_goals iterate 3 refine AZ rfl ?_
  all_goals refine Ae rfl ?_
  all_goals iterate 3 refine AZ rfl ?_
  all_goals refine Ae rfl ?_
  all_goals iterate 8 refine AZ rfl ?_
  all_goals rcases hf with rfl|⟨rfl,rfl⟩
  all_goals rfl
 |succ m ih=>
  intro i f bs hi hb hf
  have h:i<O.length:=by omega
  have ls:AL .lss (.int .i64 (i:Int)) (.int .i64 (O.length:Int))=some (.bool true):=by rw[b_lss,decide_eq_true (by omega)]
  have ho:=hO.2
  have ix:D9 36 (vBs .sh O) (.int .i64 (i:Int))=some (.rop 36 (mB O[i])):=by
   rw[DL,List.getElem?_map,List.getElem?_eq_getElem h];rfl
  have ad:AL .add (.int .i64 (i:Int)) (.int .i64 1)=some (.int .i64 ((i+1:Nat):Int)):=by rw[Bq,wrap_i64 (by omega) (by omega)];rfl
  have hm:=hO.1 _ (List.getElem_mem h)
  have pt:=QB (f:= .sh) hm.1 hm.2
  have ap:∀(h:List V),FU 9 AM.tyS false h (.lst 9 f (bs.map V.str)) (.lst 9 .own [.str (Ci O[i]).1])=some (.lst 9 .own ((bs++[(Ci O[i]).1]).map V.str)):=fun h=>by
   have cl:AU [V.str (Ci O[i]).1]=true:=rfl
   have ty:[V.str (Ci O[i]).1].all AM.tyS=true:=rfl
   rw[List.map_append]
   rcases hf with rfl|⟨rfl,rfl⟩
   ·rw[Bj cl ty (by simp;omega)];rfl
   ·rw[List.map_nil,Bf cl ty (by simp)];rfl
  have nx:=ih (i+1) .own (bs++[(Ci O[i]).1]) (by omega) (by simp;omega) (.inl rfl)
  rw[List.drop_eq_getElem_cons h,List.map_cons,show bs++(Ci O[i]).1::((O.drop (i+1)).map fun l=>(Ci l).1)=bs++[(Ci O[i]).1]++(O.drop (i+1)).map (fun l=>(Ci l).1)by simp,←nx,Ep]
  clear ih nx hf hm hO hOO
  generalize (DF k at_ ms).1=dn at*
  generalize (DF k at_ ms).2.1=sn at*
  generalize Ci O[i]=q at*
  generalize O[i]=o at*
  generalize (i+1:Nat)=i2 at*
  generalize (O.length:Int)=ll at*
  generalize O.map mB=OL at*
  refine Ah ls ?_
  refine Be ?_
  refine Ah ix ?_
  refine AZ (x:=mB o) rfl ?_
  refine AZ (show Cl 43 _ _=_ from pt) ?_
  iterate 5 refine AZ rfl ?_
  refine AZ (ap _) ?_
  iterate 2 refine AZ rfl ?_
  exact AA ad _
theorem AEQ (fl:Fl) (hfl:fl= .sh∨fl= .own) (hb:at_≠k.step∨k.j.steps≤at_):Cl 11 [.ref 4 [] 68,.int .i64 at_,BZ .sh ms] [a0,a1,a2,a3,Dq fp fn k,a5,a6,a7,a8,a9,a10]=some (JF 131 [] .sh [],[a0,a1,a2,a3,Dq fp fn k,a5,a6,a7,a8,a9,a10]):=by
 rw[JR]
 iterate 3 refine Ae rfl ?_
 refine FV ?_
 have fin:∀X:Rv,X=some (JF 131 [] .sh [],[a0,a1,a2,a3,Dq fp fn k,a5,a6,a7,a8,a9,a10])→X=some (JF 131 [] .sh [],[a0,a1,a2,a3,Dq fp fn k,a5,a6,a7,a8,a9,a10]):=fun _ h=>h
 iterate 5 refine AZ rfl ?_
 by_cases h1:at_=k.step
 ·have ne:AL .neq (.int .i64 at_) (.int .i64 k.step)=some (.bool false):=by rw[b_neq];simp[h1]
  have ge:AL .geq (.int .i64 at_) (.int .i64 k.j.steps)=some (.bool true):=by rw[b_geq,decide_eq_true (by rcases hb with h|h;exact absurd h1 h;exact h)]
  refine AZ ne ?_
  refine BP ?_
  iterate 6 refine AZ rfl ?_
  refine AZ ge ?_
  refine Be ?_
  iterate 3 refine AZ rfl ?_
  rfl
 ·have ne:AL .neq (.int .i64 at_) (.int .i64 k.step)=some (.bool true):=by rw[b_neq];simp[h1]
  refine AZ ne ?_
  refine Be ?_
  refine Be ?_
  iterate 3 refine AZ rfl ?_
  rfl
theorem AIo (hk:WkOk k) (hfn:fn= .own∨fn= .nil∨fn= .sh) (hms:ms.length≤1000000) (h1:at_=k.step) (h2:at_<k.j.steps) (h3:0≤at_):∃fd:Fl,(fd= .sh∨fd= .nil)∧
 Cl 11 [.ref 4 [] 68,.int .i64 at_,BZ .sh ms] [a0,a1,a2,a3,Dq fp fn k,a5,a6,a7,a8,a9,a10]=some (if JI k at_ ms=0 then(JF 0 (doC k at_ ms) .sh ((EN k at_ ms).map fun l=>(Ci l).1),[a0,a1,a2,a3,Dq fn.wk fd (ZM k at_ ms),a5,a6,a7,a8,a9,a10])else(JF (JI k at_ ms) [] .sh [],[a0,a1,a2,a3,Dq fp fn k,a5,a6,a7,a8,a9,a10])):=by
 have hst:k.j.steps≤64:=by have:=hk.job;simp only[Dz,decide_eq_true_eq]at this;exact this.2.2.2.2.2
 obtain⟨b1,b2⟩:=Ry hk at_ ms
 obtain⟨d1,d2,d3,d4⟩:=OC hk at_ ms
 have hO:=I4 hk at_ ms
 obtain⟨fb,hfb,e1⟩:=AEO (a0:=a0) (a1:=a1) (a2:=a2) (a3:=a3) (a5:=a5) (a6:=a6) (a7:=a7) (a8:=a8) (a9:=a9) (a10:=a10) (fp:=fp) (fn:=fn) (k:=k) (at_:=at_) hms hk.len
 have hb:DY (BK k.j ms) k.now=FT k at_ ms:=rfl
 rw[hb]at e1
 obtain⟨fd,fs,hfd,hfs,e2⟩:=AEP (a0:=a0) (a1:=a1) (a2:=a2) (a3:=a3) (a5:=a5) (a6:=a6) (a7:=a7) (a8:=a8) (a9:=a9) (a10:=a10) (fp:=fp) (fn:=fn) (at_:=at_) (ms:=ms) hk (fb:=fb) (b:=(FT k at_ ms).1) b1 b2
 have hd:Bg (AV k.g k.j at_) (FT k at_ ms).1=DF k at_ ms:=rfl
 rw[hd]at e2
 have sp:=MV (N:=k.N) (l:=(DF k at_ ms).2.1) hk.n1 hk.n64 (by omega) d3
 rw[show MS k.N (DF k at_ ms).2.1=EN k at_ ms from rfl]at sp
 have mk:=QE (w:=(k.w:Int)) (st:=at_) ⟨by have:=hk.w;have:=hk.n64;omega,by have:=hk.w;have:=hk.n64;omega⟩ ⟨by omega,by omega⟩ d4 (by omega) hO
 have hcm:Je (QD (TT (k.w:Int) at_ (DF k at_ ms).1 (EN k at_ ms))).1:=by
  unfold QD
  split
  ·exact XK ⟨by have:=hk.w;have:=hk.n64;omega,by have:=hk.w;have:=hk.n64;omega⟩ ⟨by omega,by omega⟩ _ hO
  ·exact ADO
 have cp:=QC hcm
 have lp:=AIn (a0:=a0) (a1:=a1) (a2:=a2) (a3:=a3) (a5:=a5) (a6:=a6) (a7:=a7) (a8:=a8) (a9:=a9) (a10:=a10) (fp:=fp) (at_:=at_) (ms:=ms) hk hfn (fb:=fb) (fd:=fd) (fs:=fs) hfd (b:=(FT k at_ ms).1) (vC .sh (QD (TT (k.w:Int) at_ (DF k at_ ms).1 (EN k at_ ms))).1) (doC k at_ ms) (by omega) (EN k at_ ms).length 0 .nil [] (by omega) (Nat.le_refl 0) (.inr ⟨rfl,rfl⟩)
 rw[List.drop_zero,List.nil_append]at lp
 refine⟨fd.wk,by rcases hfd with rfl|rfl<;>simp[Fl.wk],?_⟩
 have ne:AL .neq (.int .i64 at_) (.int .i64 k.step)=some (.bool false):=by rw[b_neq];simp[h1]
 have ge:AL .geq (.int .i64 at_) (.int .i64 k.j.steps)=some (.bool false):=by rw[b_geq,decide_eq_false (by omega)]
 have lO:EJ (.lst 36 .sh ((EN k at_ ms).map (BZ .sh)))=some (.int .i64 ((EN k at_ ms).length:Int)):=by show some _=_;rw[List.length_map]
 have n0:∀z:Int,z≠0→AL .neq (.int .i64 z) (.int .i64 0)=some (.bool true):=fun z hz=>by rw[b_neq];simp[hz]
 have e0:∀z:Int,z≠0→AL .eql (.int .i64 z) (.int .i64 0)=some (.bool false):=fun z hz=>by rw[b_eql,decide_eq_false hz]
 have e1':Cl 35 (AP [(Cb fn k.now).weak,AIj]) (FX a0 a1 a2 a3 a5 a6 a7 a8 a9 a10 fp fn k at_ ms .nil [] .nil [] .nil [])=some (.int .i64 (FT k at_ ms).2,FX a0 a1 a2 a3 a5 a6 a7 a8 a9 a10 fp fn k at_ ms fb (FT k at_ ms).1 .nil [] .nil []):=by rcases hfn with rfl|rfl|rfl<;>exact e1
 have e2':Cl 35 (AP [(Cb fb (FT k at_ ms).1).weak,AIk]) (FX a0 a1 a2 a3 a5 a6 a7 a8 a9 a10 fp fn k at_ ms fb (FT k at_ ms).1 .nil [] .nil [])=some (.int .i64 (DF k at_ ms).2.2,FX a0 a1 a2 a3 a5 a6 a7 a8 a9 a10 fp fn k at_ ms fb (FT k at_ ms).1 fd (DF k at_ ms).1 fs (DF k at_ ms).2.1):=by rcases hfb with rfl|rfl<;>exact e2
 have sp':∀H,Cl 40 (AB H [.int .i64 (k.N:Int),(V.lst 103 fs ((DF k at_ ms).2.1.map Ac)).weak]) []=some (.tup [.lst 36 .sh ((EN k at_ ms).map (BZ .sh)),.int .i64 0],[]):=fun H=>by rcases hfs with rfl|rfl<;>exact sp
 have mk':∀H,Cl 41 (AB H [.int .i64 (k.w:Int),.int .i64 at_,(Cb fd (DF k at_ ms).1).weak,(V.lst 36 .sh ((EN k at_ ms).map (BZ .sh))).weak]) []=some (vGC (QD (TT (k.w:Int) at_ (DF k at_ ms).1 (EN k at_ ms))),[]):=fun H=>by rcases hfd with rfl|rfl<;>exact mk
 have lw:LQ true [.int .i64 (k.w:Int),.int .i64 at_,(Cb fd (DF k at_ ms).1).weak,(V.lst 36 .sh ((EN k at_ ms).map (BZ .sh))).weak]=true:=by rcases hfd with rfl|rfl<;>rfl
 rw[JR]
 iterate 3 refine Ae rfl ?_
 refine FV ?_
 iterate 5 refine AZ rfl ?_
 refine AZ ne ?_
 refine BP ?_
 iterate 6 refine AZ rfl ?_
 refine AZ ge ?_
 refine BP ?_
 iterate 3 refine AZ rfl ?_
 refine AZ rfl ?_
 refine AZ rfl ?_
 refine AZ e1' ?_
 by_cases q1:(FT k at_ ms).2=0
 ·have q1':AL .eql (.int .i64 (FT k at_ ms).2) (.int .i64 0)=some (.bool true):=by rw[b_eql,decide_eq_true q1]
  refine AZ q1' ?_
  refine FV ?_
  refine Be ?_
  refine AZ rfl ?_
  refine AZ rfl ?_
  refine AZ e2' ?_
  have qe:JI k at_ ms=(DF k at_ ms).2.2:=by unfold JI;rw[if_pos q1]
  by_cases q2:(DF k at_ ms).2.2=0
  ·have q2':AL .neq (.int .i64 (DF k at_ ms).2.2) (.int .i64 0)=some (.bool false):=by rw[b_neq];simp[q2]
   refine AZ q2' ?_
   refine BP ?_
   rw[if_pos (by rw[qe];exact q2),←lp]
   clear lp e1 e2 hO b1 b2 d3 d4 hb hd
   unfold doC at*
   generalize QD (TT (k.w:Int) at_ (DF k at_ ms).1 (EN k at_ ms))=cq at*
   generalize MW cq.1=pq at*
   iterate 5 refine AZ rfl ?_
   refine AZ (sp' _) ?_
   iterate 8 refine AZ rfl ?_
   refine Ae lw ?_
   refine AZ (mk' _) ?_
   have pc:(vC .sh cq.1).pl=true:=by simp only[go_sem]
   have stc:∀(L:List V) (z:V),DJ (tyG tCm) 94 (L++[z]) (.ref L.length [] 94) (vC .sh cq.1).weak=some (L++[vC .sh cq.1]):=fun L z=>by rw[(V.PF _ pc).weak];exact Gq rfl ((V.PF _ pc).under _) _
   have cp':∀L,Cl 42 (AB L [(vC .sh cq.1).weak]) []=some (.tup [.str pq.1,.int .i64 (pq.2:Int)],[]):=fun L=>by rw[(V.PF _ pc).weak,AB,AB,(V.PF _ pc).reify];exact cp
   iterate 2 refine AZ rfl ?_
   refine AZ (stc _ _) ?_
   refine AZ rfl ?_
   refine AZ (cp' _) ?_
   iterate 4 refine AZ rfl ?_
   refine AZ lO ?_
   rfl
  ·have q2':AL .neq (.int .i64 (DF k at_ ms).2.2) (.int .i64 0)=some (.bool true):=n0 _ q2
   refine AZ q2' ?_
   refine Be ?_
   rw[if_neg (by rw[qe];exact q2),qe]
   iterate 3 refine AZ rfl ?_
   rfl
 ·have qe:JI k at_ ms=(FT k at_ ms).2:=by unfold JI;rw[if_neg q1]
  refine AZ (e0 _ q1) ?_
  refine FV ?_
  refine BP ?_
  refine AZ (n0 _ q1) ?_
  refine Be ?_
  rw[if_neg (by rw[qe];exact q1),qe]
  iterate 3 refine AZ rfl ?_
  rfl
end
end
section
open Go AM
section
variable {a0 a1 a2 a3 a4 a5 a6 a7 a8 a9:V} {fp fn:Fl} {k:Wkr} {at_:Int} {ms:List Msg}
abbrev FY (a0 a1 a2 a3 a4 a5 a6 a7 a8 a9:V) (fp fn:Fl) (k:Wkr) (at_:Int) (ms:List Msg) (fb:Fl) (b:List Vtx) (fd:Fl) (d:List Vtx) (fs:Fl) (s:List Msg):List V:=[a0,a1,a2,a3,a4,a5,a6,a7,a8,a9,Dq fp fn k,.ref 10 [] 68,.int .i64 at_,BZ .sh ms,JF 0 [] .nil [],Cb fb b,Cb fd d,.lst 103 fs (s.map Ac)]
abbrev AIp:V:= .clo 36 [.ref 11 [] 30,.ref 13 [] 36,.ref 15 [] 48]
abbrev AIq:V:= .clo 38 [.ref 11 [] 30,.ref 12 [] 3,.ref 16 [] 48,.ref 17 [] 36]
theorem AQv (hms:ms.length≤1000000) {fb:Fl} {b:List Vtx} (hb:b.length≤1000) (hf:fb= .own∨fb= .nil∧b=[]) (x:Vtx):
 Cl 36 [A7 x,.ref 11 [] 30,.ref 13 [] 36,.ref 15 [] 48] (FY a0 a1 a2 a3 a4 a5 a6 a7 a8 a9 fp fn k at_ ms fb b .nil [] .nil []++[A7 x])=some (.int .i64 (BK k.j ms x).2,FY a0 a1 a2 a3 a4 a5 a6 a7 a8 a9 fp fn k at_ ms .own (b++[(BK k.j ms x).1]) .nil [] .nil []++[A7 x]):=by
 have ca:=QA k.j.tag hms x.id (fl:= .sh) (.inl rfl)
 have ap:∀(h:List V) (y:Vtx),FU 70 (tyG Ld) false h (Cb fb b) (.lst 70 .own [A7 y])=some (Cb .own (b++[y])):=fun h y=>by
  have cl:AU [A7 y]=true:=rfl
  have ty:[A7 y].all (tyG Ld)=true:=rfl
  unfold Cb
  rw[List.map_append]
  rcases hf with rfl|⟨rfl,rfl⟩
  ·rw[Bj cl ty (by simp;omega)];rfl
  ·rw[List.map_nil,Bf cl ty (by simp)];rfl
 rw[VW]
 simp only[BK]
 generalize Es k.j.tag ms x.id=q at*
 refine Ae rfl ?_
 iterate 8 refine AZ rfl ?_
 refine AZ (show Cl 37 _ _=_ from ca) ?_
 iterate 3 refine AZ rfl ?_
 iterate 4 refine AZ rfl ?_
 iterate 3 refine AZ rfl ?_
 refine AZ (ap _ ⟨x.id,x.val,x.act,q.2.1,q.1⟩) ?_
 refine AZ rfl ?_
 rfl
theorem AIr (hms:ms.length≤1000000) {l:List Vtx} (hl:l.length≤64):∀(m i:Nat) (fb:Fl) (b:List Vtx),i+m=l.length→b.length≤i→(fb= .own∨fb= .nil∧b=[])→∃fb':Fl,(fb'= .own∨fb'= .nil)∧
 Gi AIp (Cb .sh l) (.int .i64 (l.length:Int)) (.int .i64 (i:Int)) 18 (FY a0 a1 a2 a3 a4 a5 a6 a7 a8 a9 fp fn k at_ ms fb b .nil [] .nil [])=some (.int .i64 (DY (BK k.j ms) (l.drop i)).2,FY a0 a1 a2 a3 a4 a5 a6 a7 a8 a9 fp fn k at_ ms fb' (b++(DY (BK k.j ms) (l.drop i)).1) .nil [] .nil []):=by
 intro m
 induction m with
 |zero=>
  intro i fb b hi hb hf
  have ls:AL .lss (.int .i64 (i:Int)) (.int .i64 (l.length:Int))=some (.bool false):=by rw[b_lss,decide_eq_false (by omega)]
  refine⟨fb,by rcases hf with rfl|⟨rfl,_⟩<;>simp,?_⟩
  rw[List.drop_eq_nil_of_le (by omega),BF]
  simp only[DY,List.append_nil]
  refine Ah ls ?_
  rfl
 |succ m ih=>
  intro i fb b hi hb hf
  have h:i<l.length:=by omega
  have ls:AL .lss (.int .i64 (i:Int)) (.int .i64 (l.length:Int))=some (.bool true):=by rw[b_lss,decide_eq_true (by omega)]
  have ix:D9 70 (Cb .sh l) (.int .i64 (i:Int))=some (.rop 70 (A7 l[i])):=by
   rw[DL,List.getElem?_map,List.getElem?_eq_getElem h];rfl
  have ad:AL .add (.int .i64 (i:Int)) (.int .i64 1)=some (.int .i64 ((i+1:Nat):Int)):=by rw[Bq,wrap_i64 (by omega) (by omega)];rfl
  have d1:=AQv (a0:=a0) (a1:=a1) (a2:=a2) (a3:=a3) (a4:=a4) (a5:=a5) (a6:=a6) (a7:=a7) (a8:=a8) (a9:=a9) (fp:=fp) (fn:=fn) (k:=k) (at_:=at_) hms (fb:=fb) (b:=b) (by omega) hf l[i]
  rw[List.drop_eq_getElem_cons h,DY]
  by_cases hq:(BK k.j ms l[i]).2=0
  ·obtain⟨fb',hf',nx⟩:=ih (i+1) .own (b++[(BK k.j ms l[i]).1]) (by omega) (by simp;omega) (.inl rfl)
   refine⟨fb',hf',?_⟩
   have ne:AL .neq (.int .i64 (BK k.j ms l[i]).2) (.int .i64 0)=some (.bool false):=by rw[b_neq];simp[hq]
   rw[if_pos hq]
   simp only[show b++(BK k.j ms l[i]).1::(DY (BK k.j ms) (l.drop (i+1))).1=b++[(BK k.j ms l[i]).1]++(DY (BK k.j ms) (l.drop (i+1))).1 by simp]
   rw[←nx,BF]
   clear ih nx hf
   generalize BK k.j ms l[i]=q at*
   generalize l[i]=x at*
   generalize (i+1:Nat)=i2 at*
   generalize (l.length:Int)=ll at*
   generalize l.map A7=LL at*
   refine Ah ls ?_
   refine Be ?_
   refine Ah ix ?_
   refine AZ rfl ?_
   refine AZ rfl ?_
   refine AZ rfl ?_
   refine DZ d1 ?_
   refine Ae rfl ?_
   refine Ah ne ?_
   refine BP ?_
   refine Ah ad ?_
   refine Ae rfl ?_
   rfl
  ·refine⟨.own,.inl rfl,?_⟩
   have ne:AL .neq (.int .i64 (BK k.j ms l[i]).2) (.int .i64 0)=some (.bool true):=by rw[b_neq];simp[hq]
   rw[if_neg hq,BF]
   clear ih hf
   generalize BK k.j ms l[i]=q at*
   generalize l[i]=x at*
   generalize (l.length:Int)=ll at*
   generalize l.map A7=LL at*
   refine Ah ls ?_
   refine Be ?_
   refine Ah ix ?_
   refine AZ rfl ?_
   refine AZ rfl ?_
   refine AZ rfl ?_
   refine DZ d1 ?_
   refine Ae rfl ?_
   refine Ah ne ?_
   refine Be ?_
   rfl
theorem AER (hms:ms.length≤1000000) {l:List Vtx} (hl:l.length≤64):∃fb':Fl,(fb'= .own∨fb'= .nil)∧
 Cl 35 [Cb .sh l,AIp] (FY a0 a1 a2 a3 a4 a5 a6 a7 a8 a9 fp fn k at_ ms .nil [] .nil [] .nil [])=some (.int .i64 (DY (BK k.j ms) l).2,FY a0 a1 a2 a3 a4 a5 a6 a7 a8 a9 fp fn k at_ ms fb' (DY (BK k.j ms) l).1 .nil [] .nil []):=by
 obtain⟨fb',hf',lp⟩:=AIr (a0:=a0) (a1:=a1) (a2:=a2) (a3:=a3) (a4:=a4) (a5:=a5) (a6:=a6) (a7:=a7) (a8:=a8) (a9:=a9) (fp:=fp) (fn:=fn) (k:=k) (at_:=at_) hms hl l.length 0 .nil [] (by omega) (Nat.le_refl 0) (.inr ⟨rfl,rfl⟩)
 have lL:EJ (Cb .sh l)=some (.int .i64 (l.length:Int)):=by show some _=_;rw[List.length_map]
 refine⟨fb',hf',?_⟩
 rw[List.drop_zero,List.nil_append]at lp
 rw[←lp,JS]
 exact AA lL _
theorem AQw (hk:WkOk k) {fb:Fl} {b:List Vtx} {fd fs:Fl} {d:List Vtx} {s:List Msg} (hd:d.length≤1000) (hs:s.length≤900000) (hf:fd= .own∨fd= .nil∧d=[]) (hf2:fs= .own∨fs= .nil∧s=[]) {x:Vtx} (hx:GZ x):
 Cl 38 [A7 x,.ref 11 [] 30,.ref 12 [] 3,.ref 16 [] 48,.ref 17 [] 36] (FY a0 a1 a2 a3 a4 a5 a6 a7 a8 a9 fp fn k at_ ms fb b fd d fs s++[A7 x])=some (.int .i64 (AV k.g k.j at_ x).2.2,FY a0 a1 a2 a3 a4 a5 a6 a7 a8 a9 fp fn k at_ ms fb b .own (d++[(AV k.g k.j at_ x).1]) (if fs= .nil∧(AV k.g k.j at_ x).2.1=[]then .nil else .own) (s++(AV k.g k.j at_ x).2.1)++[A7 x]):=by
 obtain⟨st,_,_,_,hln⟩:=Eb hk.job at_ hx
 have ap:∀(h:List V) (y:Vtx),FU 70 (tyG Ld) false h (Cb fd d) (.lst 70 .own [A7 y])=some (Cb .own (d++[y])):=fun h y=>by
  have cl:AU [A7 y]=true:=rfl
  have ty:[A7 y].all (tyG Ld)=true:=rfl
  unfold Cb
  rw[List.map_append]
  rcases hf with rfl|⟨rfl,rfl⟩
  ·rw[Bj cl ty (by simp;omega)];rfl
  ·rw[List.map_nil,Bf cl ty (by simp)];rfl
 have ap2:∀(h:List V) (u:List Msg),u.length≤1000→FU 103 (tyG 102) false h (.lst 103 fs (s.map Ac)) (BZ .sh u)=some (.lst 103 (if fs= .nil∧u=[]then .nil else .own) ((s++u).map Ac)):=fun h u hu=>by
  have cl:AU (u.map Ac)=true:=F6 u
  have ty:(u.map Ac).all (tyG 102)=true:=all_map (fun _=>rfl) u
  rw[List.map_append]
  rcases hf2 with rfl|⟨rfl,rfl⟩
  ·rw[BZ,Bj cl ty (by simp;omega)]
   simp only[reduceCtorEq,false_and,if_false];rfl
  ·cases u with
   |nil=>rfl
   |cons y u=>
    rw[BZ,List.map_nil,List.map_cons,Bf (by simpa using cl) (by simpa using ty) (by simp at hu⊢;omega)]
    simp;rfl
 rw[VY]
 generalize AV k.g k.j at_ x=q at*
 refine Ae rfl ?_
 iterate 10 refine AZ rfl ?_
 refine Ae rfl ?_
 refine AZ (show Cl 39 _ _=_ from st) ?_
 iterate 4 refine AZ rfl ?_
 refine Ae rfl ?_
 refine Ae rfl ?_
 refine AZ rfl ?_
 refine Ae rfl ?_
 iterate 2 refine AZ rfl ?_
 refine Ae (by rcases hf with rfl|⟨rfl,rfl⟩<;>rfl) ?_
 refine AZ (ap _ q.1) ?_
 refine Ae rfl ?_
 refine AZ rfl ?_
 refine AZ (ap2 _ q.2.1 hln) ?_
 refine AZ rfl ?_
 refine AZ (x:=FY a0 a1 a2 a3 a4 a5 a6 a7 a8 a9 fp fn k at_ ms fb b .own (d++[q.1]) (if fs= .nil∧q.2.1=[]then .nil else .own) (s++q.2.1)++[A7 x]++[A7 x]++[A7 q.1]) (by split<;>rfl) ?_
 rfl
theorem AIs (hk:WkOk k) {fb:Fl} {b:List Vtx} {l:List Vtx} (hl:l.length≤64) (hx:∀x∈l,GZ x):∀(m i:Nat) (fd fs:Fl) (d:List Vtx) (s:List Msg),i+m=l.length→d.length≤i→s.length≤1000*i→(fd= .own∨fd= .nil∧d=[])→(fs= .own∨fs= .nil∧s=[])→∃fd' fs':Fl,(fd'= .own∨fd'= .nil)∧(fs'= .own∨fs'= .nil)∧
 Gi AIq (Cb .sh l) (.int .i64 (l.length:Int)) (.int .i64 (i:Int)) 18 (FY a0 a1 a2 a3 a4 a5 a6 a7 a8 a9 fp fn k at_ ms fb b fd d fs s)=some (.int .i64 (Bg (AV k.g k.j at_) (l.drop i)).2.2,FY a0 a1 a2 a3 a4 a5 a6 a7 a8 a9 fp fn k at_ ms fb b fd' (d++(Bg (AV k.g k.j at_) (l.drop i)).1) fs' (s++(Bg (AV k.g k.j at_) (l.drop i)).2.1)):=by
 intro m
 induction m with
 |zero=>
  intro i fd fs d s hi hd hs hf hf2
  have ls:AL .lss (.int .i64 (i:Int)) (.int .i64 (l.length:Int))=some (.bool false):=by rw[b_lss,decide_eq_false (by omega)]
  refine⟨fd,fs,by rcases hf with rfl|⟨rfl,_⟩<;>simp,by rcases hf2 with rfl|⟨rfl,_⟩<;>simp,?_⟩
  rw[List.drop_eq_nil_of_le (by omega),BF]
  simp only[Bg,List.append_nil]
  refine Ah ls ?_
  rfl
 |succ m ih=>
  intro i fd fs d s hi hd hs hf hf2
  have h:i<l.length:=by omega
  have ls:AL .lss (.int .i64 (i:Int)) (.int .i64 (l.length:Int))=some (.bool true):=by rw[b_lss,decide_eq_true (by omega)]
  have ix:D9 70 (Cb .sh l) (.int .i64 (i:Int))=some (.rop 70 (A7 l[i])):=by
   rw[DL,List.getElem?_map,List.getElem?_eq_getElem h];rfl
  have ad:AL .add (.int .i64 (i:Int)) (.int .i64 1)=some (.int .i64 ((i+1:Nat):Int)):=by rw[Bq,wrap_i64 (by omega) (by omega)];rfl
  have d2:=AQw (a0:=a0) (a1:=a1) (a2:=a2) (a3:=a3) (a4:=a4) (a5:=a5) (a6:=a6) (a7:=a7) (a8:=a8) (a9:=a9) (fp:=fp) (fn:=fn) (at_:=at_) (ms:=ms) hk (fb:=fb) (b:=b) (fd:=fd) (fs:=fs) (d:=d) (s:=s) (by omega) (by omega) hf hf2 (hx _ (List.getElem_mem h))
  obtain⟨_,_,_,_,hln⟩:=Eb hk.job at_ (hx _ (List.getElem_mem h))
  rw[List.drop_eq_getElem_cons h,Bg]
  by_cases hq:(AV k.g k.j at_ l[i]).2.2=0
  ·obtain⟨fd',fs',hf',hf2',nx⟩:=ih (i+1) .own (if fs= .nil∧(AV k.g k.j at_ l[i]).2.1=[]then .nil else .own) (d++[(AV k.g k.j at_ l[i]).1]) (s++(AV k.g k.j at_ l[i]).2.1) (by omega) (by simp;omega) (by simp;omega) (.inl rfl) (by
    by_cases hc:fs= .nil∧(AV k.g k.j at_ l[i]).2.1=[]
    ·rw[if_pos hc]
     refine .inr ⟨rfl,?_⟩
     rcases hf2 with rfl|⟨_,rfl⟩
     ·cases hc.1
     ·rw[hc.2];rfl
    ·rw[if_neg hc];exact .inl rfl)
   refine⟨fd',fs',hf',hf2',?_⟩
   have ne:AL .neq (.int .i64 (AV k.g k.j at_ l[i]).2.2) (.int .i64 0)=some (.bool false):=by rw[b_neq];simp[hq]
   rw[if_pos hq]
   simp only[show d++(AV k.g k.j at_ l[i]).1::(Bg (AV k.g k.j at_) (l.drop (i+1))).1=d++[(AV k.g k.j at_ l[i]).1]++(Bg (AV k.g k.j at_) (l.drop (i+1))).1 by simp,
    show s++((AV k.g k.j at_ l[i]).2.1++(Bg (AV k.g k.j at_) (l.drop (i+1))).2.1)=s++(AV k.g k.j at_ l[i]).2.1++(Bg (AV k.g k.j at_) (l.drop (i+1))).2.1 by simp]
   rw[←nx,BF]
   clear ih nx hf hf2 hln hx
   generalize (if fs= .nil∧(AV k.g k.j at_ l[i]).2.1=[]then Fl.nil else Fl.own)=fz at*
   generalize AV k.g k.j at_ l[i]=q at*
   generalize l[i]=x at*
   generalize (i+1:Nat)=i2 at*
   generalize (l.length:Int)=ll at*
   generalize l.map A7=LL at*
   refine Ah ls ?_
   refine Be ?_
   refine Ah ix ?_
   refine AZ rfl ?_
   refine AZ rfl ?_
   refine AZ rfl ?_
   refine DZ d2 ?_
   refine Ae rfl ?_
   refine Ah ne ?_
   refine BP ?_
   refine Ah ad ?_
   refine Ae rfl ?_
   rfl
  ·refine⟨.own,(if fs= .nil∧(AV k.g k.j at_ l[i]).2.1=[]then .nil else .own),.inl rfl,by split<;>simp,?_⟩
   have ne:AL .neq (.int .i64 (AV k.g k.j at_ l[i]).2.2) (.int .i64 0)=some (.bool true):=by rw[b_neq];simp[hq]
   rw[if_neg hq,BF]
   clear ih hf hf2 hln hx
   generalize (if fs= .nil∧(AV k.g k.j at_ l[i]).2.1=[]then Fl.nil else Fl.own)=fz at*
   generalize AV k.g k.j at_ l[i]=q at*
   generalize l[i]=x at*
   generalize (l.length:Int)=ll at*
   generalize l.map A7=LL at*
   refine Ah ls ?_
   refine Be ?_
   refine Ah ix ?_
   refine AZ rfl ?_
   refine AZ rfl ?_
   refine AZ rfl ?_
   refine DZ d2 ?_
   refine Ae rfl ?_
   refine Ah ne ?_
   refine Be ?_
   rfl
theorem AES (hk:WkOk k) {fb:Fl} {b:List Vtx} {l:List Vtx} (hl:l.length≤64) (hx:∀x∈l,GZ x):∃fd' fs':Fl,(fd'= .own∨fd'= .nil)∧(fs'= .own∨fs'= .nil)∧
 Cl 35 [Cb .sh l,AIq] (FY a0 a1 a2 a3 a4 a5 a6 a7 a8 a9 fp fn k at_ ms fb b .nil [] .nil [])=some (.int .i64 (Bg (AV k.g k.j at_) l).2.2,FY a0 a1 a2 a3 a4 a5 a6 a7 a8 a9 fp fn k at_ ms fb b fd' (Bg (AV k.g k.j at_) l).1 fs' (Bg (AV k.g k.j at_) l).2.1):=by
 obtain⟨fd',fs',hf',hf2',lp⟩:=AIs (a0:=a0) (a1:=a1) (a2:=a2) (a3:=a3) (a4:=a4) (a5:=a5) (a6:=a6) (a7:=a7) (a8:=a8) (a9:=a9) (fp:=fp) (fn:=fn) (at_:=at_) (ms:=ms) hk (fb:=fb) (b:=b) hl hx l.length 0 .nil .nil [] [] (by omega) (Nat.le_refl 0) (by simp) (.inr ⟨rfl,rfl⟩) (.inr ⟨rfl,rfl⟩)
 have lL:EJ (Cb .sh l)=some (.int .i64 (l.length:Int)):=by show some _=_;rw[List.length_map]
 refine⟨fd',fs',hf',hf2',?_⟩
 rw[List.drop_zero,List.nil_append,List.nil_append]at lp
 rw[←lp,JS]
 exact AA lL _
set_option maxHeartbeats 1000000 in
theorem AIt (hk:WkOk k) (hfn:fn= .own∨fn= .nil∨fn= .sh) {fb fd fs:Fl} (hfd:fd= .own∨fd= .nil) {b:List Vtx} (cc:V) (co:List UInt8) (ha: -1000000≤at_∧at_≤1000000):∀(m i:Nat) (f:Fl) (bs:List (List UInt8)),i+m=(EN k at_ ms).length→bs.length≤i→(f= .own∨f= .nil∧bs=[])→
 LW (.ref 11 [] 30) (.ref 12 [] 3) (.ref 14 [] 41) (.ref 16 [] 48) (.ref 19 [] 41) (vBs .sh (EN k at_ ms)) (.int .i64 ((EN k at_ ms).length:Int)) (.int .i64 (i:Int)) 11 (FY a0 a1 a2 a3 a4 a5 a6 a7 a8 a9 fp fn k at_ ms fb b fd (DF k at_ ms).1 fs (DF k at_ ms).2.1++[cc,JF 0 co f bs])=
  some (JF 0 co .sh (bs++((EN k at_ ms).drop i).map fun l=>(Ci l).1),[a0,a1,a2,a3,a4,a5,a6,a7,a8,a9,Dq fn.wk fd.wk (ZM k at_ ms)]):=by
 have hO:=I4 hk at_ ms
 generalize hOO:EN k at_ ms=O at*
 intro m
 induction m with
 |zero=>
  intro i f bs hi hb hf
  have ls:AL .lss (.int .i64 (i:Int)) (.int .i64 (O.length:Int))=some (.bool false):=by rw[b_lss,decide_eq_false (by omega)]
  have ad:AL .add (.int .i64 at_) (.int .i64 1)=some (.int .i64 (at_+1)):=by rw[Bq,wrap_i64 (by omega) (by omega)]
  have pl:Iu (bs.map V.str)=true:=DC (fun _=>rfl) bs
  have pk:(vG .sh k.g).pl=true:=by simp only[go_sem]
  rw[List.drop_eq_nil_of_le (by omega),List.map_nil,List.append_nil,Ep]
  unfold ZM
  generalize (DF k at_ ms).1=dn at*
  generalize (DF k at_ ms).2.1=sn at*
  clear hOO hO hk
  rcases hfn with rfl|rfl|rfl
  all_goals rcases hfd with rfl|rfl
  all_goals refine Ah ls ?_
  all_goals refine BP ?_
  all_goals refine AZ rfl ?_
  all_goals refine Ae rfl ?_
  all_goals refine AZ rfl ?_
  all_goals refine Ae rfl ?_
  all_goals refine AZ rfl ?_
  all_goals refine Ae rfl ?_
  all_goals iterate 5 refine AZ rfl ?_
  all_goals refine Ae rfl ?_
  all_goals refine AZ rfl ?_
  all_goals refine Ae rfl ?_
  all_goals refine AZ rfl ?_
  all_goals refine AZ ad ?_
  all_goals iterate 2 refine AZ rfl ?_
  all_goals refine Ae rfl ?_
  all_goals iterate 3 refine AZ rfl ?_
  all_goals refine Ae rfl ?_
  all_goals iterate 3 refine AZ rfl ?_
  all_goals refine Ae rfl ?_
  all_goals iterate 8 refine AZ rfl ?_
  all_goals rcases hf with rfl|⟨rfl,rfl⟩
  all_goals rfl
 |succ m ih=>
  intro i f bs hi hb hf
  have h:i<O.length:=by omega
  have ls:AL .lss (.int .i64 (i:Int)) (.int .i64 (O.length:Int))=some (.bool true):=by rw[b_lss,decide_eq_true (by omega)]
  have ho:=hO.2
  have ix:D9 36 (vBs .sh O) (.int .i64 (i:Int))=some (.rop 36 (mB O[i])):=by
   rw[DL,List.getElem?_map,List.getElem?_eq_getElem h];rfl
  have ad:AL .add (.int .i64 (i:Int)) (.int .i64 1)=some (.int .i64 ((i+1:Nat):Int)):=by rw[Bq,wrap_i64 (by omega) (by omega)];rfl
  have hm:=hO.1 _ (List.getElem_mem h)
  have pt:=QB (f:= .sh) hm.1 hm.2
  have ap:∀(h:List V),FU 9 AM.tyS false h (.lst 9 f (bs.map V.str)) (.lst 9 .own [.str (Ci O[i]).1])=some (.lst 9 .own ((bs++[(Ci O[i]).1]).map V.str)):=fun h=>by
   have cl:AU [V.str (Ci O[i]).1]=true:=rfl
   have ty:[V.str (Ci O[i]).1].all AM.tyS=true:=rfl
   rw[List.map_append]
   rcases hf with rfl|⟨rfl,rfl⟩
   ·rw[Bj cl ty (by simp;omega)];rfl
   ·rw[List.map_nil,Bf cl ty (by simp)];rfl
  have nx:=ih (i+1) .own (bs++[(Ci O[i]).1]) (by omega) (by simp;omega) (.inl rfl)
  rw[List.drop_eq_getElem_cons h,List.map_cons,show bs++(Ci O[i]).1::((O.drop (i+1)).map fun l=>(Ci l).1)=bs++[(Ci O[i]).1]++(O.drop (i+1)).map (fun l=>(Ci l).1)by simp,←nx,Ep]
  clear ih nx hf hm hO hOO
  generalize (DF k at_ ms).1=dn at*
  generalize (DF k at_ ms).2.1=sn at*
  generalize Ci O[i]=q at*
  generalize O[i]=o at*
  generalize (i+1:Nat)=i2 at*
  generalize (O.length:Int)=ll at*
  generalize O.map mB=OL at*
  refine Ah ls ?_
  refine Be ?_
  refine Ah ix ?_
  refine AZ (x:=mB o) rfl ?_
  refine AZ (show Cl 43 _ _=_ from pt) ?_
  iterate 5 refine AZ rfl ?_
  refine AZ (ap _) ?_
  iterate 2 refine AZ rfl ?_
  exact AA ad _
theorem AET (fl:Fl) (hfl:fl= .sh∨fl= .own) (hb:at_≠k.step∨k.j.steps≤at_):Cl 11 [.ref 10 [] 68,.int .i64 at_,BZ .sh ms] [a0,a1,a2,a3,a4,a5,a6,a7,a8,a9,Dq fp fn k]=some (JF 131 [] .sh [],[a0,a1,a2,a3,a4,a5,a6,a7,a8,a9,Dq fp fn k]):=by
 rw[JR]
 iterate 3 refine Ae rfl ?_
 refine FV ?_
 have fin:∀X:Rv,X=some (JF 131 [] .sh [],[a0,a1,a2,a3,a4,a5,a6,a7,a8,a9,Dq fp fn k])→X=some (JF 131 [] .sh [],[a0,a1,a2,a3,a4,a5,a6,a7,a8,a9,Dq fp fn k]):=fun _ h=>h
 iterate 5 refine AZ rfl ?_
 by_cases h1:at_=k.step
 ·have ne:AL .neq (.int .i64 at_) (.int .i64 k.step)=some (.bool false):=by rw[b_neq];simp[h1]
  have ge:AL .geq (.int .i64 at_) (.int .i64 k.j.steps)=some (.bool true):=by rw[b_geq,decide_eq_true (by rcases hb with h|h;exact absurd h1 h;exact h)]
  refine AZ ne ?_
  refine BP ?_
  iterate 6 refine AZ rfl ?_
  refine AZ ge ?_
  refine Be ?_
  iterate 3 refine AZ rfl ?_
  rfl
 ·have ne:AL .neq (.int .i64 at_) (.int .i64 k.step)=some (.bool true):=by rw[b_neq];simp[h1]
  refine AZ ne ?_
  refine Be ?_
  refine Be ?_
  iterate 3 refine AZ rfl ?_
  rfl
set_option maxHeartbeats 1000000 in
theorem AIu (hk:WkOk k) (hfn:fn= .own∨fn= .nil∨fn= .sh) (hms:ms.length≤1000000) (h1:at_=k.step) (h2:at_<k.j.steps) (h3:0≤at_):∃fd:Fl,(fd= .sh∨fd= .nil)∧
 Cl 11 [.ref 10 [] 68,.int .i64 at_,BZ .sh ms] [a0,a1,a2,a3,a4,a5,a6,a7,a8,a9,Dq fp fn k]=some (if JI k at_ ms=0 then(JF 0 (doC k at_ ms) .sh ((EN k at_ ms).map fun l=>(Ci l).1),[a0,a1,a2,a3,a4,a5,a6,a7,a8,a9,Dq fn.wk fd (ZM k at_ ms)])else(JF (JI k at_ ms) [] .sh [],[a0,a1,a2,a3,a4,a5,a6,a7,a8,a9,Dq fp fn k])):=by
 have hst:k.j.steps≤64:=by have:=hk.job;simp only[Dz,decide_eq_true_eq]at this;exact this.2.2.2.2.2
 obtain⟨b1,b2⟩:=Ry hk at_ ms
 obtain⟨d1,d2,d3,d4⟩:=OC hk at_ ms
 have hO:=I4 hk at_ ms
 obtain⟨fb,hfb,e1⟩:=AER (a0:=a0) (a1:=a1) (a2:=a2) (a3:=a3) (a4:=a4) (a5:=a5) (a6:=a6) (a7:=a7) (a8:=a8) (a9:=a9) (fp:=fp) (fn:=fn) (k:=k) (at_:=at_) hms hk.len
 have hb:DY (BK k.j ms) k.now=FT k at_ ms:=rfl
 rw[hb]at e1
 obtain⟨fd,fs,hfd,hfs,e2⟩:=AES (a0:=a0) (a1:=a1) (a2:=a2) (a3:=a3) (a4:=a4) (a5:=a5) (a6:=a6) (a7:=a7) (a8:=a8) (a9:=a9) (fp:=fp) (fn:=fn) (at_:=at_) (ms:=ms) hk (fb:=fb) (b:=(FT k at_ ms).1) b1 b2
 have hd:Bg (AV k.g k.j at_) (FT k at_ ms).1=DF k at_ ms:=rfl
 rw[hd]at e2
 have sp:=MV (N:=k.N) (l:=(DF k at_ ms).2.1) hk.n1 hk.n64 (by omega) d3
 rw[show MS k.N (DF k at_ ms).2.1=EN k at_ ms from rfl]at sp
 have mk:=QE (w:=(k.w:Int)) (st:=at_) ⟨by have:=hk.w;have:=hk.n64;omega,by have:=hk.w;have:=hk.n64;omega⟩ ⟨by omega,by omega⟩ d4 (by omega) hO
 have hcm:Je (QD (TT (k.w:Int) at_ (DF k at_ ms).1 (EN k at_ ms))).1:=by
  unfold QD
  split
  ·exact XK ⟨by have:=hk.w;have:=hk.n64;omega,by have:=hk.w;have:=hk.n64;omega⟩ ⟨by omega,by omega⟩ _ hO
  ·exact ADO
 have cp:=QC hcm
 have lp:=AIt (a0:=a0) (a1:=a1) (a2:=a2) (a3:=a3) (a4:=a4) (a5:=a5) (a6:=a6) (a7:=a7) (a8:=a8) (a9:=a9) (fp:=fp) (at_:=at_) (ms:=ms) hk hfn (fb:=fb) (fd:=fd) (fs:=fs) hfd (b:=(FT k at_ ms).1) (vC .sh (QD (TT (k.w:Int) at_ (DF k at_ ms).1 (EN k at_ ms))).1) (doC k at_ ms) (by omega) (EN k at_ ms).length 0 .nil [] (by omega) (Nat.le_refl 0) (.inr ⟨rfl,rfl⟩)
 rw[List.drop_zero,List.nil_append]at lp
 refine⟨fd.wk,by rcases hfd with rfl|rfl<;>simp[Fl.wk],?_⟩
 have ne:AL .neq (.int .i64 at_) (.int .i64 k.step)=some (.bool false):=by rw[b_neq];simp[h1]
 have ge:AL .geq (.int .i64 at_) (.int .i64 k.j.steps)=some (.bool false):=by rw[b_geq,decide_eq_false (by omega)]
 have lO:EJ (.lst 36 .sh ((EN k at_ ms).map (BZ .sh)))=some (.int .i64 ((EN k at_ ms).length:Int)):=by show some _=_;rw[List.length_map]
 have n0:∀z:Int,z≠0→AL .neq (.int .i64 z) (.int .i64 0)=some (.bool true):=fun z hz=>by rw[b_neq];simp[hz]
 have e0:∀z:Int,z≠0→AL .eql (.int .i64 z) (.int .i64 0)=some (.bool false):=fun z hz=>by rw[b_eql,decide_eq_false hz]
 have e1':Cl 35 (AP [(Cb fn k.now).weak,AIp]) (FY a0 a1 a2 a3 a4 a5 a6 a7 a8 a9 fp fn k at_ ms .nil [] .nil [] .nil [])=some (.int .i64 (FT k at_ ms).2,FY a0 a1 a2 a3 a4 a5 a6 a7 a8 a9 fp fn k at_ ms fb (FT k at_ ms).1 .nil [] .nil []):=by rcases hfn with rfl|rfl|rfl<;>exact e1
 have e2':Cl 35 (AP [(Cb fb (FT k at_ ms).1).weak,AIq]) (FY a0 a1 a2 a3 a4 a5 a6 a7 a8 a9 fp fn k at_ ms fb (FT k at_ ms).1 .nil [] .nil [])=some (.int .i64 (DF k at_ ms).2.2,FY a0 a1 a2 a3 a4 a5 a6 a7 a8 a9 fp fn k at_ ms fb (FT k at_ ms).1 fd (DF k at_ ms).1 fs (DF k at_ ms).2.1):=by rcases hfb with rfl|rfl<;>exact e2
 have sp':∀H,Cl 40 (AB H [.int .i64 (k.N:Int),(V.lst 103 fs ((DF k at_ ms).2.1.map Ac)).weak]) []=some (.tup [.lst 36 .sh ((EN k at_ ms).map (BZ .sh)),.int .i64 0],[]):=fun H=>by rcases hfs with rfl|rfl<;>exact sp
 have mk':∀H,Cl 41 (AB H [.int .i64 (k.w:Int),.int .i64 at_,(Cb fd (DF k at_ ms).1).weak,(V.lst 36 .sh ((EN k at_ ms).map (BZ .sh))).weak]) []=some (vGC (QD (TT (k.w:Int) at_ (DF k at_ ms).1 (EN k at_ ms))),[]):=fun H=>by rcases hfd with rfl|rfl<;>exact mk
 have lw:LQ true [.int .i64 (k.w:Int),.int .i64 at_,(Cb fd (DF k at_ ms).1).weak,(V.lst 36 .sh ((EN k at_ ms).map (BZ .sh))).weak]=true:=by rcases hfd with rfl|rfl<;>rfl
 rw[JR]
 iterate 3 refine Ae rfl ?_
 refine FV ?_
 iterate 5 refine AZ rfl ?_
 refine AZ ne ?_
 refine BP ?_
 iterate 6 refine AZ rfl ?_
 refine AZ ge ?_
 refine BP ?_
 iterate 3 refine AZ rfl ?_
 refine AZ rfl ?_
 refine AZ rfl ?_
 refine AZ e1' ?_
 by_cases q1:(FT k at_ ms).2=0
 ·have q1':AL .eql (.int .i64 (FT k at_ ms).2) (.int .i64 0)=some (.bool true):=by rw[b_eql,decide_eq_true q1]
  refine AZ q1' ?_
  refine FV ?_
  refine Be ?_
  refine AZ rfl ?_
  refine AZ rfl ?_
  refine AZ e2' ?_
  have qe:JI k at_ ms=(DF k at_ ms).2.2:=by unfold JI;rw[if_pos q1]
  by_cases q2:(DF k at_ ms).2.2=0
  ·have q2':AL .neq (.int .i64 (DF k at_ ms).2.2) (.int .i64 0)=some (.bool false):=by rw[b_neq];simp[q2]
   refine AZ q2' ?_
   refine BP ?_
   rw[if_pos (by rw[qe];exact q2),←lp]
   clear lp e1 e2 hO b1 b2 d3 d4 hb hd
   unfold doC at*
   generalize QD (TT (k.w:Int) at_ (DF k at_ ms).1 (EN k at_ ms))=cq at*
   generalize MW cq.1=pq at*
   iterate 5 refine AZ rfl ?_
   refine AZ (sp' _) ?_
   iterate 8 refine AZ rfl ?_
   refine Ae lw ?_
   refine AZ (mk' _) ?_
   have pc:(vC .sh cq.1).pl=true:=by simp only[go_sem]
   have stc:∀(L:List V) (z:V),DJ (tyG tCm) 94 (L++[z]) (.ref L.length [] 94) (vC .sh cq.1).weak=some (L++[vC .sh cq.1]):=fun L z=>by rw[(V.PF _ pc).weak];exact Gq rfl ((V.PF _ pc).under _) _
   have cp':∀L,Cl 42 (AB L [(vC .sh cq.1).weak]) []=some (.tup [.str pq.1,.int .i64 (pq.2:Int)],[]):=fun L=>by rw[(V.PF _ pc).weak,AB,AB,(V.PF _ pc).reify];exact cp
   iterate 2 refine AZ rfl ?_
   refine AZ (stc _ _) ?_
   refine AZ rfl ?_
   refine AZ (cp' _) ?_
   iterate 4 refine AZ rfl ?_
   refine AZ lO ?_
   rfl
  ·have q2':AL .neq (.int .i64 (DF k at_ ms).2.2) (.int .i64 0)=some (.bool true):=n0 _ q2
   refine AZ q2' ?_
   refine Be ?_
   rw[if_neg (by rw[qe];exact q2),qe]
   iterate 3 refine AZ rfl ?_
   rfl
 ·have qe:JI k at_ ms=(FT k at_ ms).2:=by unfold JI;rw[if_neg q1]
  refine AZ (e0 _ q1) ?_
  refine FV ?_
  refine BP ?_
  refine AZ (n0 _ q1) ?_
  refine Be ?_
  rw[if_neg (by rw[qe];exact q1),qe]
  iterate 3 refine AZ rfl ?_
  rfl
end
end
section
open Go AM
def EO (l:List (List UInt8)):List UInt8:=(l.map fun s=>Ap s.length++s).flatten
def Ic (k:Wkr):List UInt8:=Ap 83++Ap k.step.toNat++Ap k.now.length++EO (k.now.map vtxB)
theorem I5 (s:List UInt8) (l:List (List UInt8)):EO (s::l)=Ap s.length++s++EO l:=by simp[EO]
section
variable {h:List V} {id:Nat} {fp fn:Fl} {k:Wkr}
theorem Gy {h:List V} {id:Nat} {u:TypeId} {fs:List V} {i:Nat} {v:V} (hh:h[id]?=some (.agg u fs)) (hf:fs[i]?=some v) (z:List V) (t:TypeId):AX (h++z) t (.ref id [i] t)=some v:=CG (Iq (Ir z hh) hf)
theorem ZN (hk:h[id]?=some (Dq fp fn k)):Cl 12 [.ref id [] 68] h=some (.int .i64 k.step,h):=by
 have l1:AX h 3 (.ref id [4] 3)=some (.int .i64 k.step):=by
  have:=Gy hk (i:=4) (v:= .int .i64 k.step) rfl [] 3
  rwa [List.append_nil]at this
 rw[AOT]
 refine(AA (show Ag (.ref id [] 68)=some (.ref id [] 68)from rfl) _).trans ?_
 refine(AA (show fA 68 3 4 (.ref id [] 68)=some (.ref id [4] 3)from rfl) _).trans ?_
 refine(AA l1 _).trans ?_
 simp only[AQ,V.unmut,V.norm,V.clean,V.over,Bool.and_self,if_true,take_len]
theorem AMV {L:List (List UInt8)} (hL:∀s∈L,s.length≤50) (hn:L.length≤1000):∀(m i:Nat) (l:List UInt8),i+m=L.length→l.length≤100+100*i→
 ABX (Di h.length) (.lst 9 .sh (L.map V.str)) (.int .i64 (L.length:Int)) (.int .i64 (i:Int)) h.length (h++[BN .own l])=some (.str (l++EO (L.drop i)),h):=by
 intro m
 induction m with
 |zero=>
  intro i l hi hl
  have ls:AL .lss (.int .i64 (i:Int)) (.int .i64 (L.length:Int))=some (.bool false):=by rw[b_lss,decide_eq_false (by omega)]
  have dn:=Gx (h:=h++[BN .own l]) (id:=h.length) (DW h _)
  rw[List.drop_eq_nil_of_le (by omega),show EO []=[]from rfl,List.append_nil,Xr]
  refine(AA ls _).trans ?_
  refine(CV _ _).trans ?_
  refine(AA (show Cl 28 (AP [Di h.length]) _=_ from dn) _).trans ?_
  simp only[AQ,V.unmut,V.norm,V.clean,V.over,Bool.and_self,if_true,Gn]
 |succ m ih=>
  intro i l hi hl
  have hh:i<L.length:=by omega
  have ls:AL .lss (.int .i64 (i:Int)) (.int .i64 (L.length:Int))=some (.bool true):=by rw[b_lss,decide_eq_true (by omega)]
  have ix:D9 9 (.lst 9 .sh (L.map V.str)) (.int .i64 (i:Int))=some (.rop 9 (.str L[i])):=by
   rw[DL,List.getElem?_map,List.getElem?_eq_getElem hh];rfl
  have ad:AL .add (.int .i64 (i:Int)) (.int .i64 1)=some (.int .i64 ((i+1:Nat):Int)):=by rw[Bq,wrap_i64 (by omega) (by omega)];rfl
  have h50:=hL _ (List.getElem_mem hh)
  have tx:=Ri (h:=h++[BN .own l]) (id:=h.length) (s:=L[i]) (DW h _) (.inl rfl) (by omega)
  rw[FB]at tx
  have nl:=Aj 10 (L[i]).length
  have nx:=ih (i+1) (l++Ap (L[i]).length++L[i]) (by omega) (by simp[Ap];omega)
  rw[List.drop_eq_getElem_cons hh,I5,show l++(Ap (L[i]).length++L[i]++EO (L.drop (i+1)))=l++Ap (L[i]).length++L[i]++EO (L.drop (i+1))by simp,←nx,Xr]
  refine(AA ls _).trans ?_
  refine(CO _ _).trans ?_
  refine(AA ix _).trans ?_
  refine(AA (show AX _ 9 (.rop 9 (.str L[i]))=some (.str L[i])from EK) _).trans ?_
  refine(AA (show Cl 27 (AP [Di h.length,.str L[i]]) _=_ from tx) _).trans ?_
  exact AA ad _
theorem XL (hk:h[id]?=some (Dq fp fn k)) (hfn:fn= .own∨fn= .nil∨fn= .sh) (h0:0≤k.step) (h64:k.step≤1000) (hx:∀x∈k.now,GZ x) (hn:k.now.length≤64):Cl 8 [.ref id [] 68] h=some (.str (Ic k),h):=by
 have nw:=IX h
 have e0:([]:List UInt8)++Ap 83=Ap 83:=rfl
 have m1:=EH (h:=h++[BN .nil []]) (id:=h.length) (n:=83) (DW h _) (.inr rfl) (by omega) (by simp)
 rw[FB,e0]at m1
 have b1:=Aj 10 83
 have b2:=Aj 10 k.step.toNat
 have b3:=Aj 10 k.now.length
 have m2:=EH (h:=h++[BN .own (Ap 83)]) (id:=h.length) (n:=k.step.toNat) (DW h _) (.inl rfl) (by omega) (by simp only[Ap];omega)
 rw[FB]at m2
 have m3:=EH (h:=h++[BN .own (Ap 83++Ap k.step.toNat)]) (id:=h.length) (n:=k.now.length) (DW h _) (.inl rfl) (by omega) (by simp only[Ap,List.length_append];omega)
 rw[FB]at m3
 have rw_:=Y1 hx (by omega) .sh
 have lp:=AMV (h:=h) (L:=k.now.map vtxB) (fun s hs=>by obtain⟨x,_,rfl⟩:=List.mem_map.1 hs;exact MQ x) (by simp;omega) (k.now.map vtxB).length 0 (Ap 83++Ap k.step.toNat++Ap k.now.length) (by omega) (by simp only[Ap,List.length_append];omega)
 rw[List.drop_zero]at lp
 have ls:∀z,AX (h++z) 3 (.ref id [4] 3)=some (.int .i64 k.step):=fun z=>Gy hk (i:=4) rfl z _
 have cs:Kr .u64 (.int .i64 k.step)=some (.int .u64 (k.step.toNat:Int)):=by rw[cvI_u64 (by omega) (by omega)];congr 2;omega
 have ln:∀z,CU (h++z) 48 (.ref id [6] 48)=some ((Cb fn k.now).weak):=fun z=>by
  have:=Gy hk (i:=6) (v:=Cb fn k.now) rfl z 48
  simp only[CU,this,Option.map_some]
 have ll:EJ ((Cb fn k.now).weak)=some (.int .i64 (k.now.length:Int)):=by rcases hfn with rfl|rfl|rfl<;>(show some _=_;rw[List.length_map])
 have cl:Kr .u64 (.int .i64 (k.now.length:Int))=some (.int .u64 (k.now.length:Int)):=cvI_u64 (by omega) (by omega)
 have rr:∀H,Cl 26 (AB H [(Cb fn k.now).weak]) []=some (.lst 9 .sh ((k.now.map vtxB).map V.str),[]):=fun H=>by rcases hfn with rfl|rfl|rfl<;>exact rw_
 have lL:EJ (.lst 9 .sh ((k.now.map vtxB).map V.str))=some (.int .i64 ((k.now.map vtxB).length:Int)):=by show some _=_;rw[List.length_map]
 have nn:Ag (.ref id [] 68)=some (.ref id [] 68):=rfl
 have f4:fA 68 3 4 (.ref id [] 68)=some (.ref id [4] 3):=rfl
 have f6:fA 68 48 6 (.ref id [] 68)=some (.ref id [6] 48):=rfl
 rw[Ic,←lp,AR9]
 refine(AA (show Cl 24 (AP []) h=_ from nw) _).trans ?_
 refine(AA (show Cl 25 (AP [Di h.length,.int .u64 83]) _=_ from m1) _).trans ?_
 refine(AA nn _).trans ?_
 refine(AA f4 _).trans ?_
 refine(AA (ls _) _).trans ?_
 refine(AA cs _).trans ?_
 refine(AA (show Cl 25 (AP [Di h.length,.int .u64 (k.step.toNat:Int)]) _=_ from m2) _).trans ?_
 refine(AA nn _).trans ?_
 refine(AA f6 _).trans ?_
 refine(AA (ln _) _).trans ?_
 refine(AA ll _).trans ?_
 refine(AA cl _).trans ?_
 refine(AA (show Cl 25 (AP [Di h.length,.int .u64 (k.now.length:Int)]) _=_ from m3) _).trans ?_
 refine(AA nn _).trans ?_
 refine(AA f6 _).trans ?_
 refine(AA (ln _) _).trans ?_
 refine(AA (rr _) _).trans ?_
 exact AA lL _
end
end
section
open Go AM
section
variable {h:List V} {id:Nat} {fp fn:Fl} {k:Wkr}
theorem ZO (hk:h[id]?=some (Dq fp fn k)) (hfn:fn= .own∨fn= .nil∨fn= .sh) (hx:∀x∈k.now,GZ x) (hn:k.now.length≤64):Cl 13 [.ref id [] 68] h=some (Bh (vrootB k.now),h):=by
 have hR:=Y2 hx (by omega) .sh
 have rr:∀H,Cl 44 (AB H [(Cb fn k.now).weak]) []=some (Bh (vrootB k.now),[]):=fun H=>by rcases hfn with rfl|rfl|rfl<;>exact hR
 have ln:∀z,CU (h++z) 48 (.ref id [6] 48)=some ((Cb fn k.now).weak):=fun z=>by
  have:=Gy hk (i:=6) (v:=Cb fn k.now) rfl z 48
  simp only[CU,this,Option.map_some]
 have pa:=Rk (vrootB k.now)
 have l3:=Gf k.now
 have ty:tyG 44 (Bh (vrootB k.now))=true:=rfl
 have st:=Gq (H:=h) (z:=V.agg 44 (List.replicate 32 (V.int .u8 0))) ty ((V.PF _ pa).under _) 45
 rw[AOU]
 generalize vrootB k.now=r at*
 refine Ah (show Ag (.ref id [] 68)=some (.ref id [] 68)from rfl) ?_
 refine Ah (show fA 68 48 6 (.ref id [] 68)=some (.ref id [6] 48)from rfl) ?_
 refine Ah (ln _) ?_
 refine Ah (rr _) ?_
 refine Ah st ?_
 refine Ah (RN _ _ _) ?_
 simp only[AQ,(V.PF _ pa).unmut,(V.PF _ pa).norm,(V.PF _ pa).clean,(V.PF _ pa).over,Bool.and_self,if_true,Gn]
end
theorem AIv {e:Int} {c:List UInt8} {bs:List (List UInt8)} (hn:bs.length≤1000):∀(m i:Nat),i+m=bs.length→
 VQ (.ref 0 [] 41) (.ref 1 [] 41) (.int .i64 (i:Int)) [JF e c .sh bs,JF e c .sh bs]=some (.bool true,[]):=by
 intro m
 induction m with
 |zero=>
  intro i hi
  have ls:AL .lss (.int .i64 (i:Int)) (.int .i64 (bs.length:Int))=some (.bool false):=by rw[b_lss,decide_eq_false (by omega)]
  have ll:EJ (V.lst 9 .sh (bs.map V.str)).weak=some (.int .i64 (bs.length:Int)):=by show some _=_;rw[List.length_map]
  rw[Tt]
  iterate 2 refine AZ rfl ?_
  refine Ah ll ?_
  refine Ah ls ?_
  refine BP ?_
  rfl
 |succ m ih=>
  intro i hi
  have h:i<bs.length:=by omega
  have ls:AL .lss (.int .i64 (i:Int)) (.int .i64 (bs.length:Int))=some (.bool true):=by rw[b_lss,decide_eq_true (by omega)]
  have ll:EJ (V.lst 9 .sh (bs.map V.str)).weak=some (.int .i64 (bs.length:Int)):=by show some _=_;rw[List.length_map]
  have ix:D9 9 (V.lst 9 .sh (bs.map V.str)).weak (.int .i64 (i:Int))=some (.rop 9 (.str bs[i])):=by
   show D9 _ (.lst _ .sh _) _=_
   rw[DL,List.getElem?_map,List.getElem?_eq_getElem h];rfl
  have ad:AL .add (.int .i64 (i:Int)) (.int .i64 1)=some (.int .i64 ((i+1:Nat):Int)):=by rw[Bq,wrap_i64 (by omega) (by omega)];rfl
  have ne:AL .neq (.str bs[i]) (.str bs[i])=some (.bool false):=by
   simp only[AL]
   congr 2
   simp
  have lp:∀H,AX H 9 (.rop 9 (.str bs[i]))=some (.str bs[i]):=fun H=>EK
  rw[←ih (i+1) (by omega),Tt]
  iterate 2 refine AZ rfl ?_
  refine Ah ll ?_
  refine Ah ls ?_
  refine Be ?_
  iterate 2 refine AZ rfl ?_
  refine Ah ix ?_
  refine Ah (lp _) ?_
  iterate 2 refine AZ rfl ?_
  refine Ah ix ?_
  refine Ah (lp _) ?_
  refine Ah ne ?_
  refine BP ?_
  exact AA ad _
theorem AIw (e:Int) (c:List UInt8) {bs:List (List UInt8)} (hn:bs.length≤1000):Cl 10 [JF e c .sh bs,JF e c .sh bs] []=some (.bool true,[]):=by
 have lp:=AIv (e:=e) (c:=c) hn bs.length 0 (by omega)
 have ll:EJ (V.lst 9 .sh (bs.map V.str)).weak=some (.int .i64 (bs.length:Int)):=by show some _=_;rw[List.length_map]
 have nz:∀z:Int,AL .neq (.int .i64 z) (.int .i64 z)=some (.bool false):=fun z=>by rw[b_neq];simp
 have ns:AL .neq (.str c) (.str c)=some (.bool false):=by
  simp only[AL]
  congr 2
  simp
 rw[←lp,AOS]
 refine Ae rfl ?_
 refine Ae rfl ?_
 refine FV ?_
 iterate 4 refine AZ rfl ?_
 refine Ah (nz e) ?_
 refine BP ?_
 iterate 4 refine AZ rfl ?_
 refine Ah ns ?_
 refine BP ?_
 iterate 2 refine AZ rfl ?_
 refine Ah ll ?_
 iterate 2 refine AZ rfl ?_
 refine Ah ll ?_
 refine Ah (nz _) ?_
 rfl
end
section
open Go AM
theorem AMW {x:Vtx} (hx:GZ x) (hc:Em x=true):Cl 32 [.str (vtxB x)] []=some (.tup [A7 x,.int .i64 0],[]):=by
 obtain⟨z1,z2⟩:=AIX hx.2.1
 obtain⟨z3,z4⟩:=AIX hx.2.2
 have hid:0≤x.id∧x.id<64:=by
  simp only[Em,Bool.not_eq_true',Bool.or_eq_false_iff,decide_eq_false_iff_not]at hc;omega
 have e:vtxB x=Ap x.id.toNat++(Ap (Nw x.val)++(Ap (Ho x.act)++(Ap (Ho x.has)++(Ap (Nw x.inn)++[])))):=by
  rw[vtxB,if_pos hc];simp
 have l10:∀n,(Ap n).length≤10:=fun n=>Aj 10 n
 have hb:∀b:Bool,Ho b<18446744073709551616:=fun b=>by cases b<;>decide
 have nw:=YW [Iw] (vtxB x)
 have st:∀{n:Nat} (hn:n<18446744073709551616) (rest:List UInt8) (hl:rest.length≤1000),Cl 30 (AP ([LZ 1]++[])) [Iw,Dw (Ap n++rest) 0]=some (.int .u64 (n:Int),[Iw,Dw rest 0]):=fun{n} hn rest hl=>by
  have h:=AAX (h:=[Iw,Dw (Ap n++rest) 0]) (id:=1) rfl (by have:=l10 n;rw[List.length_append];omega)
  rw[OA hn]at h
  exact h
 have si:∀{n:Nat} (hn:n<18446744073709551616) (rest:List UInt8) (hl:rest.length≤1000),Cl 61 (AP ([LZ 1]++[])) [Iw,Dw (Ap n++rest) 0]=some (.int .i64 (zz n),[Iw,Dw rest 0]):=fun{n} hn rest hl=>by
  have h:=APr (h:=[Iw,Dw (Ap n++rest) 0]) (id:=1) rfl (by have:=l10 n;rw[List.length_append];omega)
  rw[OA hn]at h
  exact h
 have en:=AHW (h:=[Iw,Dw [] 0]) (id:=1) (s:=[]) (e:=0) rfl
 have ck:=Uu x
 rw[if_pos hc]at ck
 have m1:O4 (.int .u64 (x.id.toNat:Int)) (.int .u64 64)=some (.int .u64 (x.id.toNat:Int)):=by
  simp only[O4,if_true]
  rw[if_neg (by omega)]
 have m2:Kr .i64 (.int .u64 (x.id.toNat:Int))=some (.int .i64 x.id):=by rw[cvI_i64 (by omega) (by omega)];congr 2;omega
 have eb:∀b:Bool,AL .eql (.int .u64 (Ho b:Int)) (.int .u64 1)=some (.bool b):=fun b=>by cases b<;>rfl
 have gb:∀b:Bool,AL .gtr (.int .u64 (Ho b:Int)) (.int .u64 1)=some (.bool false):=fun b=>by cases b<;>rfl
 rw[AOj]
 rw[e]at nw⊢
 generalize hr4:Ap (Nw x.inn)++[]=r4 at*
 have q4:r4.length≤10:=by rw[←hr4,List.append_nil];exact l10 _
 generalize hr3:Ap (Ho x.has)++r4=r3 at*
 have q3:r3.length≤20:=by rw[←hr3,List.length_append];have:=l10 (Ho x.has);omega
 generalize hr2:Ap (Ho x.act)++r3=r2 at*
 have q2:r2.length≤30:=by rw[←hr2,List.length_append];have:=l10 (Ho x.act);omega
 generalize hr1:Ap (Nw x.val)++r2=r1 at*
 have q1:r1.length≤40:=by rw[←hr1,List.length_append];have:=l10 (Nw x.val);omega
 have s1:=st (n:=x.id.toNat) (by omega) r1 (by omega)
 have s2:=si z2 r2 (by omega)
 have s3:=st (hb x.act) r3 (by omega)
 have s4:=st (hb x.has) r4 (by omega)
 have s5:=si z4 [] (by simp)
 rw[hr1,z1]at s2
 rw[hr2]at s3
 rw[hr3]at s4
 rw[hr4,z3]at s5
 refine Ah (show Cl 29 (AP [.str (Ap x.id.toNat++r1)]) [Iw]=_ from nw) ?_
 refine DZ s1 ?_
 refine Ae rfl ?_
 refine DZ s2 ?_
 refine Ae rfl ?_
 refine DZ s3 ?_
 refine Ae rfl ?_
 refine DZ s4 ?_
 refine Ae rfl ?_
 refine DZ s5 ?_
 refine Ae rfl ?_
 refine Ah (show Cl 34 (AP [LZ 1]) _=some (.int .i64 0,[Iw,Dw [] 0])from en) ?_
 refine Ah (show AL .neq (.int .i64 0) (.int .i64 0)=some (.bool false)from rfl) ?_
 refine BP ?_
 refine Ah m1 ?_
 refine Ah m2 ?_
 refine Ah (eb _) ?_
 refine Ah (eb _) ?_
 refine AZ (x:=A7 x) rfl ?_
 refine AZ (x:=[Iw,Dw [] 0,A7 x]) rfl ?_
 refine FV ?_
 refine Ah (gb _) ?_
 refine BP ?_
 refine Ah (gb _) ?_
 refine BP ?_
 refine AZ (x:=A7 x) rfl ?_
 refine Ah (show Cl 62 (AB _ [A7 x]) []=_ from ck) ?_
 refine Ah (show AL .neq (.int .i64 0) (.int .i64 0)=some (.bool false)from rfl) ?_
 refine BP ?_
 refine AZ (x:=A7 x) rfl ?_
 refine AZ (x:=[A7 x,Dw [] 0,A7 x]) rfl ?_
 refine AZ (x:=A7 x) rfl ?_
 rfl
end
section
open Go AM
theorem AIx {n:Nat} (h:n<128):(Ap n).length=1:=by rw[Ap,IW,if_pos h];rfl
theorem AMX {x:Vtx} (hc:Em x=true):(vtxB x).length≤40:=by
 have hid:0≤x.id∧x.id<64:=by
  simp only[Em,Bool.not_eq_true',Bool.or_eq_false_iff,decide_eq_false_iff_not]at hc;omega
 have hb:∀b:Bool,(Ap (Ho b)).length=1:=fun b=>AIx (by cases b<;>decide)
 have h1:=Aj 10 (Nw x.val)
 have h2:=Aj 10 (Nw x.inn)
 have h3:(Ap x.id.toNat).length=1:=AIx (by omega)
 rw[vtxB,if_pos hc]
 simp only[List.length_append,hb,h3,Ap]at*
 omega
theorem stF {ty:V→Bool} {h:List V} {id i:Nat} {u:TypeId} {fs:List V} {v:V} (hh:h[id]?=some (.agg u fs)) (hi:i<fs.length) (ht:ty v=true) (hu:v.under (id+1)=true) (z:List V) (t:TypeId):DJ ty t (h++z) (.ref id [i] t) v=some (h.set id (.agg u (fs.set i v))++z):=by
 rw[ANR ht hu,Ir z hh]
 simp only[Option.bind_some,V.upd,List.getElem?_eq_getElem hi,Option.map_some]
 rw[Pm _ _ (IB hh)]
section
variable {h:List V} {id:Nat} {fp fn:Fl} {k kc:Wkr}
theorem AMY (hk:h[id]?=some (Dq fp fn kc)) (hfn:fn= .own∨fn= .nil∨fn= .sh) (hst:0≤k.step∧k.step≤1000) (hn:k.now.length≤64) (hlen:kc.now.length=k.now.length) (hids:k.now.map (·.id)=kc.now.map (·.id)) (hx:∀x∈k.now,GZ x∧Em x=true∧x.has=false):
 ∀(m i:Nat) (f:Fl),i+m=k.now.length→(f= .own∨f= .nil∧i=0)→∃fn':Fl,(fn'= .own∨fn'= .nil)∧
 ABY (.ref id [] 68) (LZ h.length) (.int .u64 (k.step.toNat:Int)) (Cb f (k.now.take i)) (.int .i64 (k.now.length:Int)) (.int .i64 (i:Int)) h.length (h++[Dw (EO ((k.now.drop i).map vtxB)) 0])=
  some (.int .i64 0,h.set id (Dq .nil fn' ⟨kc.g,kc.j,kc.N,kc.w,k.step,[],k.now,false⟩)):=by
 have hid:=IB hk
 have nn:Ag (.ref id [] 68)=some (.ref id [] 68):=rfl
 intro m
 induction m with
 |zero=>
  intro i f hi hf
  have ls:AL .lss (.int .i64 (i:Int)) (.int .i64 (k.now.length:Int))=some (.bool false):=by rw[b_lss,decide_eq_false (by omega)]
  have e0:EO ((k.now.drop i).map vtxB)=[]:=by rw[List.drop_eq_nil_of_le (by omega)];rfl
  have et:k.now.take i=k.now:=List.take_of_length_le (by omega)
  refine⟨f,by rcases hf with rfl|⟨rfl,_⟩<;>simp,?_⟩
  rw[e0,et,Xt]
  have en:=AHW (h:=h++[Dw [] 0]) (id:=h.length) (s:=[]) (e:=0) (DW h _)
  have cs:Kr .i64 (.int .u64 (k.step.toNat:Int))=some (.int .i64 k.step):=by rw[cvI_i64 (by omega) (by omega)];congr 2;omega
  have uf:∀n,(Cb f k.now).under n=true:=fun n=>by rcases hf with rfl|⟨rfl,_⟩<;>rfl
  have s1:=stF (ty:=tyL 70) hk (i:=5) (v:=V.lst 70 .nil []) (by simp) rfl rfl [Dw [] 0] 48
  have g1:=GN (V.agg tWk (List.set [vG .sh kc.g,vJ kc.j,.int .i64 (kc.N:Int),.int .i64 (kc.w:Int),.int .i64 kc.step,Cb fp kc.prev,Cb fn kc.now,.bool kc.op] 5 (V.lst 70 .nil []))) hk
  have s2:=stF (ty:=tyL 70) g1 (i:=6) (v:=Cb f k.now) (by simp) rfl (uf _) [Dw [] 0] 48
  have g2:=GN (V.agg tWk (List.set (List.set [vG .sh kc.g,vJ kc.j,.int .i64 (kc.N:Int),.int .i64 (kc.w:Int),.int .i64 kc.step,Cb fp kc.prev,Cb fn kc.now,.bool kc.op] 5 (V.lst 70 .nil [])) 6 (Cb f k.now))) g1
  have s3:=stF (ty:=AM.tyI .i64) g2 (i:=4) (v:=V.int .i64 k.step) (by simp) rfl rfl [Dw [] 0] 3
  have g3:=GN (V.agg tWk (List.set (List.set (List.set [vG .sh kc.g,vJ kc.j,.int .i64 (kc.N:Int),.int .i64 (kc.w:Int),.int .i64 kc.step,Cb fp kc.prev,Cb fn kc.now,.bool kc.op] 5 (V.lst 70 .nil [])) 6 (Cb f k.now)) 4 (V.int .i64 k.step))) g2
  have s4:=stF (ty:=AM.tyB) g3 (i:=7) (v:=V.bool false) (by simp) rfl rfl [Dw [] 0] 4
  refine Ah ls ?_
  refine BP ?_
  refine Ah (show Cl 34 (AP [LZ h.length]) _=some (.int .i64 0,h++[Dw [] 0])from en) ?_
  refine Ah (show AL .neq (.int .i64 0) (.int .i64 0)=some (.bool false)from rfl) ?_
  refine BP ?_
  refine Ah cs ?_
  refine Ah nn ?_
  refine Ah (show fA 68 48 5 (.ref id [] 68)=some (.ref id [5] 48)from rfl) ?_
  refine Ah s1 ?_
  refine Ah nn ?_
  refine Ah (show fA 68 48 6 (.ref id [] 68)=some (.ref id [6] 48)from rfl) ?_
  refine Ah s2 ?_
  refine Ah nn ?_
  refine Ah (show fA 68 3 4 (.ref id [] 68)=some (.ref id [4] 3)from rfl) ?_
  refine Ah s3 ?_
  refine Ah nn ?_
  refine Ah (show fA 68 4 7 (.ref id [] 68)=some (.ref id [7] 4)from rfl) ?_
  refine Ah s4 ?_
  have fl:∀(H z:List V) (n:Nat),H.length=n→AQ n (H++z) (.int .i64 0)=some (.int .i64 0,H):=fun H z n hH=>by
   subst hH
   simp only[AQ,V.unmut,V.norm,V.clean,V.over,Bool.and_self,if_true,Gn]
  rw[fl _ _ _ (by simp)]
  simp only[List.set_set]
  rfl
 |succ m ih=>
  intro i f hi hf
  have hh:i<k.now.length:=by omega
  have hh2:i<kc.now.length:=by omega
  obtain⟨x1,x2,x3⟩:=hx _ (List.getElem_mem hh)
  have hide:(k.now[i]).id=(kc.now[i]).id:=by
   have:=congrArg (fun l:List Int=>l[i]?) hids
   simp only[List.getElem?_map,List.getElem?_eq_getElem hh,List.getElem?_eq_getElem hh2,Option.map_some,Option.some.injEq]at this
   exact this
  have ls:AL .lss (.int .i64 (i:Int)) (.int .i64 (k.now.length:Int))=some (.bool true):=by rw[b_lss,decide_eq_true (by omega)]
  have ad:AL .add (.int .i64 (i:Int)) (.int .i64 1)=some (.int .i64 ((i+1:Nat):Int)):=by rw[Bq,wrap_i64 (by omega) (by omega)];rfl
  have v40:=AMX x2
  have hL:∀s∈(k.now.drop (i+1)).map vtxB,s.length≤50:=fun s hs=>by obtain⟨y,_,rfl⟩:=List.mem_map.1 hs;exact MQ y
  have tl:∀L:List (List UInt8),(∀s∈L,s.length≤50)→(EO L).length≤60*L.length:=by
   intro L
   induction L with
   |nil=>intro _;simp[EO]
   |cons s L ih2=>
    intro hs
    have a:=hs s List.mem_cons_self
    have b:=ih2 fun y hy=>hs y (List.mem_cons_of_mem _ hy)
    have c:=Aj 10 s.length
    rw[I5]
    simp only[List.length_append,List.length_cons,Ap];omega
  have tl2:=tl _ hL
  rw[List.length_map,List.length_drop]at tl2
  have e0:EO ((k.now.drop i).map vtxB)=ZH (vtxB k.now[i])++EO ((k.now.drop (i+1)).map vtxB):=by
   rw[List.drop_eq_getElem_cons hh,List.map_cons,I5];rfl
  have tx:=ALA (h:=h++[Dw (EO ((k.now.drop i).map vtxB)) 0]) (id:=h.length) 40 (by omega) (DW h _) (by rw[e0,List.length_append,ZH,List.length_append];have:=Aj 10 (vtxB k.now[i]).length;simp only[Ap];omega)
  rw[e0,AAu v40 (by omega),FB]at tx
  have gt:=AMW x1 x2
  have et:k.now.take (i+1)=k.now.take i++[k.now[i]]:=by rw[List.take_add_one,List.getElem?_eq_getElem hh];rfl
  have ap:∀H:List V,FU 70 (tyG Ld) false H (Cb f (k.now.take i)) (.lst 70 .own [A7 k.now[i]])=some (Cb .own (k.now.take (i+1))):=fun H=>by
   have cl:AU [A7 k.now[i]]=true:=rfl
   have ty:[A7 k.now[i]].all (tyG Ld)=true:=rfl
   rw[et]
   unfold Cb
   rw[List.map_append]
   rcases hf with rfl|⟨rfl,rfl⟩
   ·rw[Bj cl ty (by simp;omega)];rfl
   ·rw[List.take_zero,List.map_nil,Bf cl ty (by simp)];rfl
  obtain⟨fn',hfn',nx⟩:=ih (i+1) .own (by omega) (.inl rfl)
  refine⟨fn',hfn',?_⟩
  rw[←nx,e0,Xt]
  clear ih nx tl tl2 hL
  generalize EO ((k.now.drop (i+1)).map vtxB)=rest at*
  have H2:h++[Dw rest 0]++[A7 k.now[i]]=h++[Dw rest 0,A7 k.now[i]]:=by simp
  have st:=Gq (H:=h++[Dw rest 0]) (z:=Iw) (show tyG Ld (A7 k.now[i])=true from rfl) (show(A7 k.now[i]).under _=true from rfl) 70
  have l1:AX (h++[Dw rest 0]++[A7 k.now[i]]) 3 (.ref (h++[Dw rest 0]).length [0] 3)=some (.int .i64 (k.now[i]).id):=UY rfl _
  have l2:CU (h++[Dw rest 0]++[A7 k.now[i]]) 48 (.ref id [6] 48)=some ((Cb fn kc.now).weak):=by
   rw[H2]
   have:=Gy hk (i:=6) (v:=Cb fn kc.now) rfl [Dw rest 0,A7 k.now[i]] 48
   simp only[CU,this,Option.map_some]
  have ix:D9 70 ((Cb fn kc.now).weak) (.int .i64 (i:Int))=some (.rop 70 (A7 kc.now[i])):=by
   rcases hfn with rfl|rfl|rfl
   all_goals
    show D9 _ (.lst _ _ _) _=_
    rw[DL,List.getElem?_map,List.getElem?_eq_getElem hh2];rfl
  have l3:AX (h++[Dw rest 0]++[A7 k.now[i]]) 3 (.rop 3 (.int .i64 (kc.now[i]).id))=some (.int .i64 (kc.now[i]).id):=EK
  have l4:AX (h++[Dw rest 0]++[A7 k.now[i]]) 4 (.ref (h++[Dw rest 0]).length [3] 4)=some (.bool (k.now[i]).has):=UY rfl _
  rw[x3]at l4
  have l5:AX (h++[Dw rest 0]++[A7 k.now[i]]) 70 (.ref (h++[Dw rest 0]).length [] 70)=some (A7 k.now[i]):=RN _ _ _
  have ne:AL .neq (.int .i64 (k.now[i]).id) (.int .i64 (kc.now[i]).id)=some (.bool false):=by rw[b_neq,hide];simp
  have ul:∀(q:List UInt8) (L:List Vtx) (a b c:Int),Aa (h++[Dw q 0]).length [.ref id [] 68,LZ h.length,.int .u64 a,Cb .own L,.int .i64 b,.int .i64 c]=true:=fun q L a b c=>by
   simp[Aa,V.under,LZ];omega
  have tk:∀q:List UInt8,List.take (h++[Dw q 0]).length (h++[Dw rest 0]++[A7 k.now[i]])=h++[Dw rest 0]:=fun q=>List.take_left' (by simp)
  refine Ah ls ?_
  refine Be ?_
  refine Ah (show Cl 33 (AP [LZ h.length,.int .i64 40]) _=some (.str (vtxB k.now[i]),h++[Dw rest 0])from tx) ?_
  refine Ah (show Cl 32 (AB _ [.str (vtxB k.now[i])]) []=_ from gt) ?_
  refine AZ (x:=A7 k.now[i]) rfl ?_
  refine AZ (x:=V.int .i64 0) rfl ?_
  refine Ah st ?_
  refine FV ?_
  refine Ah (show AL .neq (.int .i64 0) (.int .i64 0)=some (.bool false)from rfl) ?_
  refine BP ?_
  refine Ah (show fA 70 3 0 (.ref (h++[Dw rest 0]).length [] 70)=some (.ref (h++[Dw rest 0]).length [0] 3)from rfl) ?_
  refine Ah l1 ?_
  refine Ah nn ?_
  refine Ah (show fA 68 48 6 (.ref id [] 68)=some (.ref id [6] 48)from rfl) ?_
  refine Ah l2 ?_
  refine Ah ix ?_
  refine Ah (show fA 70 3 0 (.rop 70 (A7 kc.now[i]))=some (.rop 3 (.int .i64 (kc.now[i]).id))from rfl) ?_
  refine Ah l3 ?_
  refine Ah ne ?_
  refine BP ?_
  refine Ah (show fA 70 4 3 (.ref (h++[Dw rest 0]).length [] 70)=some (.ref (h++[Dw rest 0]).length [3] 4)from rfl) ?_
  refine Ah l4 ?_
  refine BP ?_
  refine Ah l5 ?_
  refine AZ (x:=V.lst 70 .own [A7 k.now[i]]) rfl ?_
  refine Ah (ap _) ?_
  refine Ah ad ?_
  refine(if_pos (ul _ _ _ _ _)).trans ?_
  rw[tk]
theorem AMZ (hk:h[id]?=some (Dq fp fn kc)) (hfn:fn= .own∨fn= .nil∨fn= .sh) (hst:0≤k.step∧k.step≤kc.j.steps) (h64:kc.j.steps≤64) (hn:k.now.length≤64) (hids:k.now.map (·.id)=kc.now.map (·.id)) (hx:∀x∈k.now,GZ x∧Em x=true∧x.has=false):
 ∃fn':Fl,(fn'= .own∨fn'= .nil)∧Cl 9 [.ref id [] 68,.str (Ic k)] h=some (.int .i64 0,h.set id (Dq .nil fn' ⟨kc.g,kc.j,kc.N,kc.w,k.step,[],k.now,false⟩)):=by
 have hlen:kc.now.length=k.now.length:=by have:=congrArg List.length hids;simpa using this.symm
 obtain⟨fn',hfn',lp⟩:=AMY hk hfn (k:=k) ⟨hst.1,by omega⟩ hn hlen hids hx k.now.length 0 .nil (by omega) (.inr ⟨rfl,rfl⟩)
 refine⟨fn',hfn',?_⟩
 rw[List.drop_zero,List.take_zero]at lp
 have nw:=YW h (Ic k)
 have l10:∀n,(Ap n).length≤10:=fun n=>Aj 10 n
 have tl:(EO (k.now.map vtxB)).length≤60*64:=by
  have:∀L:List (List UInt8),(∀s∈L,s.length≤50)→(EO L).length≤60*L.length:=by
   intro L
   induction L with
   |nil=>intro _;simp[EO]
   |cons s L ih2=>
    intro hs
    have a:=hs s List.mem_cons_self
    have b:=ih2 fun y hy=>hs y (List.mem_cons_of_mem _ hy)
    have c:=Aj 10 s.length
    rw[I5]
    simp only[List.length_append,List.length_cons,Ap];omega
  have:=this (k.now.map vtxB) (fun s hs=>by obtain⟨y,_,rfl⟩:=List.mem_map.1 hs;exact MQ y)
  rw[List.length_map]at this;omega
 have e:Ic k=Ap 83++(Ap k.step.toNat++(Ap k.now.length++EO (k.now.map vtxB))):=by simp[Ic]
 rw[e]at nw⊢
 have st:∀{n:Nat} (hn:n<18446744073709551616) (rest:List UInt8) (hl:rest.length≤10000),Cl 30 (AP [LZ h.length]) (h++[Dw (Ap n++rest) 0])=some (.int .u64 (n:Int),h++[Dw rest 0]):=fun{n} hn rest hl=>by
  have q:=AAX (h:=h++[Dw (Ap n++rest) 0]) (id:=h.length) (DW h _) (by have:=l10 n;rw[List.length_append];omega)
  rw[OA hn,FB]at q
  exact q
 have q1:=st (n:=83) (by omega) (Ap k.step.toNat++(Ap k.now.length++EO (k.now.map vtxB))) (by simp only[List.length_append];have:=l10 k.step.toNat;have:=l10 k.now.length;omega)
 have q2:=st (n:=k.step.toNat) (by omega) (Ap k.now.length++EO (k.now.map vtxB)) (by simp only[List.length_append];have:=l10 k.now.length;omega)
 have q3:=st (n:=k.now.length) (by omega) (EO (k.now.map vtxB)) (by omega)
 generalize EO (k.now.map vtxB)=rest at*
 have er:=APq (h:=h++[Dw rest 0]) (id:=h.length) (s:=rest) (e:=0) (DW h _)
 have nn:Ag (.ref id [] 68)=some (.ref id [] 68):=rfl
 have ls:AX (h++[Dw rest 0]) 3 (.ref id [1,2] 3)=some (.int .i64 kc.j.steps):=by
  refine CG ?_
  simp only[rd,Ir [Dw rest 0] hk,Option.bind_some]
  rfl
 have cs:Kr .u64 (.int .i64 kc.j.steps)=some (.int .u64 kc.j.steps):=cvI_u64 (by omega) (by omega)
 have gs:AL .gtr (.int .u64 (k.step.toNat:Int)) (.int .u64 kc.j.steps)=some (.bool false):=by rw[b_gtr,decide_eq_false (by omega)]
 have ln:CU (h++[Dw rest 0]) 48 (.ref id [6] 48)=some ((Cb fn kc.now).weak):=by
  have:=Gy hk (i:=6) (v:=Cb fn kc.now) rfl [Dw rest 0] 48
  simp only[CU,this,Option.map_some]
 have ll:EJ ((Cb fn kc.now).weak)=some (.int .i64 (k.now.length:Int)):=by
  rw[←hlen]
  rcases hfn with rfl|rfl|rfl<;>(show some _=_;rw[List.length_map])
 have cl:Kr .u64 (.int .i64 (k.now.length:Int))=some (.int .u64 (k.now.length:Int)):=cvI_u64 (by omega) (by omega)
 have nl:AL .neq (.int .u64 (k.now.length:Int)) (.int .u64 (k.now.length:Int))=some (.bool false):=by rw[b_neq];simp
 rw[←lp,ASA]
 refine Ah (show Cl 29 (AP [.str _]) h=_ from nw) ?_
 refine Ah q1 ?_
 refine Ah (show AL .eql (.int .u64 ((83:Nat):Int)) (.int .u64 83)=some (.bool true)from rfl) ?_
 refine Ah q2 ?_
 refine Ah q3 ?_
 refine FV ?_
 refine Ah (show un .not (.bool true)=some (.bool false)from rfl) ?_
 refine BP ?_
 refine Ah (show Cl 31 (AP [LZ h.length]) _=some (.int .i64 0,h++[Dw rest 0])from er) ?_
 refine Ah (show AL .neq (.int .i64 0) (.int .i64 0)=some (.bool false)from rfl) ?_
 refine BP ?_
 refine Ah nn ?_
 refine Ah (show fA 68 26 1 (.ref id [] 68)=some (.ref id [1] 26)from rfl) ?_
 refine Ah (show fA 26 3 2 (.ref id [1] 26)=some (.ref id [1,2] 3)from rfl) ?_
 refine Ah ls ?_
 refine Ah cs ?_
 refine Ah gs ?_
 refine BP ?_
 refine Ah nn ?_
 refine Ah (show fA 68 48 6 (.ref id [] 68)=some (.ref id [6] 48)from rfl) ?_
 refine Ah ln ?_
 refine Ah ll ?_
 refine Ah cl ?_
 refine Ah nl ?_
 refine BP ?_
 refine Ah nn ?_
 refine Ah (show fA 68 48 6 (.ref id [] 68)=some (.ref id [6] 48)from rfl) ?_
 refine Ah ln ?_
 exact AA ll _
end
end
section
open Go AM
section
variable {a b c:V}
end
end
section
open Go AM
section
variable {a b:V}
theorem AIy {g:Grf} {j:Job} {N w:Nat} (ha:BM 4 [a,b]=true) {L:List Nat} (hL:∀v∈L,v<64) (hn:L.length≤64):∀(n i:Nat) (f:Fl) (xs:List Vtx),i+n=L.length→xs.length=i→(f= .own∨f= .nil)→∃f':Fl,(f'= .own∨f'= .nil)∧
 Tq (.ref 3 [] 26) (.ref 4 [] 68) (TS .sh L) (.int .i64 (L.length:Int)) (.int .i64 (i:Int)) 2 [a,b,vG .sh g,vJ j,vWk g j N w f xs]=
  some (.tup [.ref 4 [] 68,.int .i64 0],[a,b,vG .sh g,vJ j,vWk g j N w f' (xs++(L.drop i).map fun(v:Nat)=>firstX j (v:Int))]):=by
 intro n
 induction n with
 |zero=>
  intro i f xs hi hx hf
  refine⟨f,hf,?_⟩
  have ls:AL .lss (.int .i64 (i:Int)) (.int .i64 (L.length:Int))=some (.bool false):=by rw[b_lss,decide_eq_false (by omega)]
  rw[List.drop_eq_nil_of_le (by omega),List.map_nil,List.append_nil,IQ]
  simp(disch:=first|assumption|omega|(with_reducible rfl)|(simp only[go_sem];done)|(simp only[go_sem];omega)|fail) only[↓reduceIte,↓AO,Nat.reduceAdd,go_sem,ls]
  rfl
 |succ n ih=>
  intro i f xs hi hx hf
  have h:i<L.length:=by omega
  have hv:=hL _ (List.getElem_mem h)
  obtain⟨f',hf',ih'⟩:=ih (i+1) .own (xs++[firstX j (L[i]:Int)]) (by omega) (by simp;omega) (Or.inl rfl)
  refine⟨f',hf',?_⟩
  have ls:AL .lss (.int .i64 (i:Int)) (.int .i64 (L.length:Int))=some (.bool true):=by rw[b_lss,decide_eq_true (by omega)]
  have ix:D9 3 (TS .sh L) (.int .i64 (i:Int))=some (.rop 3 (.int .i64 (L[i]:Int))):=by
   rw[TS,DL,List.getElem?_map,List.getElem?_eq_getElem h];rfl
  have hfi:=Ru j (v:=(L[i]:Int)) (by omega) (by omega)
  have ad:AL .add (.int .i64 (i:Int)) (.int .i64 1)=some (.int .i64 ((i+1:Nat):Int)):=by rw[Bq,wrap_i64 (by omega) (by omega)];rfl
  have pg:(vG .sh g).pl=true:=by simp only[go_sem]
  have aw:∀v:V,BM 4 ([a,b,vG .sh g,vJ j,v].set 4 void)=true:=by
   intro v
   simp only[BM,Bool.and_eq_true]at ha
   simp only[List.set_cons_succ,List.set_cons_zero,BM,ha.1,ha.2.1,(V.PF _ pg).away];rfl
  have rj:∀h:List V,AB h [vJ j,.int .i64 (L[i]:Int)]=[vJ j,.int .i64 (L[i]:Int)]:=fun h=>rfl
  have cf:∀(v:V) (k:V→List V→Rv),Dt P CX W (some (.ref 4 [] 68)) (.clo 23 []) [vJ j,.int .i64 (L[i]:Int)] [a,b,vG .sh g,vJ j,v] k=k (A7 (firstX j (L[i]:Int))) [a,b,vG .sh g,vJ j,v]:=
   fun v k=>Lj (by kernel_rfl) (by kernel_rfl) (v:=v) rfl (aw v) rfl (rj _) ((V.PF _ (AAf _)).away 4) hfi k
  have tk:∀(y0 y1 y2 y3 y4 y5 y7:V) (q:Fl) (R:List V),BR [a,b,vG .sh g,vJ j,.agg tWk [y0,y1,y2,y3,y4,y5,.lst 70 q R,y7]] 48 (.ref 4 [6] 48)=some (.lst 70 q R,[a,b,vG .sh g,vJ j,.agg tWk [y0,y1,y2,y3,y4,y5,.lst 70 q.wk R,y7]]):=
   fun y0 y1 y2 y3 y4 y5 y7 q R=>Rx (h:=[a,b,vG .sh g,vJ j,.agg tWk [y0,y1,y2,y3,y4,y5,.lst 70 q R,y7]]) (id:=4) rfl rfl
  have sb6:∀p t,Du (.ref 4 [] 68) (.ref 4 p t)=true:=fun _ _=>rfl
  have sb4:Du (.ref 3 [] 26) (.ref 3 [] 26)=true:=rfl
  have df:(JL (.ref 4 [] 68) (.ref 3 [] 26)&&true)=true:=rfl
  have nn:Ag (.ref 4 [] 68)=some (.ref 4 [] 68):=rfl
  have ap:∀h:List V,FU 70 (tyG Ld) false h (.lst 70 f (xs.map A7)) (.lst 70 .own [A7 (firstX j (L[i]:Int))])=some (.lst 70 .own ((xs++[firstX j (L[i]:Int)]).map A7)):=fun h=>by
   have cl:AU [A7 (firstX j (L[i]:Int))]=true:=rfl
   have ty:[A7 (firstX j (L[i]:Int))].all (tyG Ld)=true:=rfl
   rw[List.map_append]
   rcases hf with rfl|rfl
   ·rw[Bj cl ty (by simp;omega)];rfl
   ·rw[Bf cl ty (by simp;omega)];rfl
  have e:xs++(L.drop i).map (fun(v:Nat)=>firstX j (v:Int))=xs++[firstX j (L[i]:Int)]++(L.drop (i+1)).map (fun(v:Nat)=>firstX j (v:Int)):=by
   rw[List.drop_eq_getElem_cons h,List.map_cons,List.append_assoc];rfl
  rw[e,←ih',IQ]
  clear ih ih' e aw hL hfi
  generalize firstX j (L[i]:Int)=y at*
  generalize (L[i]:Int)=z at*
  generalize (i+1:Nat)=i2 at*
  generalize (L.length:Int)=ll at*
  generalize TS .sh L=LL at*
  rcases hf with rfl|rfl
  all_goals (repeat' with_reducible first|refine(CO _ _).trans ?_|refine(CV _ _).trans ?_|refine(AO _ _).trans ?_|((first|(refine' (AA ?_ _).trans ?_;rotate_left)|refine(if_pos ?_).trans ?_|refine(BL ?_ _ _).trans ?_);focus (first|rfl|(simp(disch:=first|assumption|omega|with_reducible rfl|(simp only[go_sem]<;>omega)|fail) only[↓reduceIte,↓AO,Nat.reduceAdd,go_sem,Bool.not_true,Bool.not_false,ls,ix,df,nn,sb6,tk,sb4,rj,Np,Nq]<;>first|rfl|omega)|assumption|omega))|(refine(BA ?_ _ _).trans ?_;focus (first|(simp(disch:=first|assumption|omega|with_reducible rfl|(simp only[go_sem]<;>omega)|fail) only[↓reduceIte,↓AO,Nat.reduceAdd,go_sem,Bool.not_true,Bool.not_false,ls,ix,df,nn,sb6,tk,sb4,rj,Np,Nq]<;>omega)|assumption|omega))|fail)
  all_goals refine(cf _ _).trans ?_
  all_goals (repeat' with_reducible first|refine(CO _ _).trans ?_|refine(CV _ _).trans ?_|refine(AO _ _).trans ?_|((first|(refine' (AA ?_ _).trans ?_;rotate_left)|refine(if_pos ?_).trans ?_|refine(BL ?_ _ _).trans ?_);focus (first|rfl|(simp(disch:=first|assumption|omega|with_reducible rfl|(simp only[go_sem]<;>omega)|fail) only[↓reduceIte,↓AO,Nat.reduceAdd,go_sem,Bool.not_true,Bool.not_false,ap,nn,ad]<;>first|rfl|omega)|assumption|omega))|(refine(BA ?_ _ _).trans ?_;focus (first|(simp(disch:=first|assumption|omega|with_reducible rfl|(simp only[go_sem]<;>omega)|fail) only[↓reduceIte,↓AO,Nat.reduceAdd,go_sem,Bool.not_true,Bool.not_false,ap,nn,ad]<;>omega)|assumption|omega))|fail)
  all_goals rfl
end
section
variable {a b:V}
theorem AIz {g:Grf} (hl:g.es.length<1000000) {j:Job} (hj:Dz g j=true) {N w:Nat} (h1:1≤N) (hN:N≤64) (hw:w<N) (ha:BM 4 [a,b]=true):∃f':Fl,(f'= .own∨f'= .nil)∧
 Cl 6 [vG .sh g,vJ j,.int .i64 (N:Int),.int .i64 (w:Int)] [a,b]=some (.tup [.ref 4 [] 68,.int .i64 0],[a,b,vG .sh g,vJ j,vWk g j N w f' (O7 g j N w)]):=by
 have hg':=KI hj
 have hlen:=MR g.n.toNat N w
 obtain⟨f',hf',lp⟩:=AIy (g:=g) (j:=j) (N:=N) (w:=w) ha (L:=ofL g.n.toNat N w) (fun v hv=>by have:=Rw hv;omega) (by omega) (ofL g.n.toNat N w).length 0 .nil [] (by omega) rfl (Or.inr rfl)
 refine⟨f',hf',?_⟩
 rw[List.drop_zero,List.nil_append]at lp
 have hc:=KH hl j
 rw[if_pos hj]at hc
 have hof:=AAs (n:=g.n.toNat) (N:=N) (w:=w) (by omega) (by omega) (by omega) hN hw
 rw[show(g.n.toNat:Int)=g.n by omega]at hof
 have ce:=OB (l:=g.es) (by omega)
 rw[show O7 g j N w=(ofL g.n.toNat N w).map (fun(v:Nat)=>firstX j (v:Int))from rfl,←lp,AFW]
 have lL:EJ (TS .sh (ofL g.n.toNat N w))=some (.int .i64 ((ofL g.n.toNat N w).length:Int)):=by show some _=_;rw[List.length_map]
 clear lp hlen
 generalize ofL g.n.toNat N w=L at*
 simp(disch:=first|assumption|omega|(with_reducible rfl)|(simp only[go_sem];done)|(simp only[go_sem];omega)|fail) only[↓reduceIte,↓AO,Nat.reduceAdd,go_sem,hc,hof,ce,lL]
 rfl
end
end
section
open Go AM
section
variable {a b c d e:V}
theorem AI0 {g:Grf} {j:Job} {N w:Nat} (ha:BM 7 [a,b,c,d,e]=true) {L:List Nat} (hL:∀v∈L,v<64) (hn:L.length≤64):∀(n i:Nat) (f:Fl) (xs:List Vtx),i+n=L.length→xs.length=i→(f= .own∨f= .nil)→∃f':Fl,(f'= .own∨f'= .nil)∧
 Tq (.ref 6 [] 26) (.ref 7 [] 68) (TS .sh L) (.int .i64 (L.length:Int)) (.int .i64 (i:Int)) 5 [a,b,c,d,e,vG .sh g,vJ j,vWk g j N w f xs]=
  some (.tup [.ref 7 [] 68,.int .i64 0],[a,b,c,d,e,vG .sh g,vJ j,vWk g j N w f' (xs++(L.drop i).map fun(v:Nat)=>firstX j (v:Int))]):=by
 intro n
 induction n with
 |zero=>
  intro i f xs hi hx hf
  refine⟨f,hf,?_⟩
  have ls:AL .lss (.int .i64 (i:Int)) (.int .i64 (L.length:Int))=some (.bool false):=by rw[b_lss,decide_eq_false (by omega)]
  rw[List.drop_eq_nil_of_le (by omega),List.map_nil,List.append_nil,IQ]
  simp(disch:=first|assumption|omega|(with_reducible rfl)|(simp only[go_sem];done)|(simp only[go_sem];omega)|fail) only[↓reduceIte,↓AO,Nat.reduceAdd,go_sem,ls]
  rfl
 |succ n ih=>
  intro i f xs hi hx hf
  have h:i<L.length:=by omega
  have hv:=hL _ (List.getElem_mem h)
  obtain⟨f',hf',ih'⟩:=ih (i+1) .own (xs++[firstX j (L[i]:Int)]) (by omega) (by simp;omega) (Or.inl rfl)
  refine⟨f',hf',?_⟩
  have ls:AL .lss (.int .i64 (i:Int)) (.int .i64 (L.length:Int))=some (.bool true):=by rw[b_lss,decide_eq_true (by omega)]
  have ix:D9 3 (TS .sh L) (.int .i64 (i:Int))=some (.rop 3 (.int .i64 (L[i]:Int))):=by
   rw[TS,DL,List.getElem?_map,List.getElem?_eq_getElem h];rfl
  have hfi:=Ru j (v:=(L[i]:Int)) (by omega) (by omega)
  have ad:AL .add (.int .i64 (i:Int)) (.int .i64 1)=some (.int .i64 ((i+1:Nat):Int)):=by rw[Bq,wrap_i64 (by omega) (by omega)];rfl
  have pg:(vG .sh g).pl=true:=by simp only[go_sem]
  have aw:∀v:V,BM 7 ([a,b,c,d,e,vG .sh g,vJ j,v].set 7 void)=true:=by
   intro v
   simp only[BM,Bool.and_eq_true]at ha
   simp only[List.set_cons_succ,List.set_cons_zero,BM,ha.1,ha.2.1,ha.2.2.1,ha.2.2.2.1,ha.2.2.2.2.1,(V.PF _ pg).away];rfl
  have rj:∀h:List V,AB h [vJ j,.int .i64 (L[i]:Int)]=[vJ j,.int .i64 (L[i]:Int)]:=fun h=>rfl
  have cf:∀(v:V) (k:V→List V→Rv),Dt P CX W (some (.ref 7 [] 68)) (.clo 23 []) [vJ j,.int .i64 (L[i]:Int)] [a,b,c,d,e,vG .sh g,vJ j,v] k=k (A7 (firstX j (L[i]:Int))) [a,b,c,d,e,vG .sh g,vJ j,v]:=
   fun v k=>Lj (by kernel_rfl) (by kernel_rfl) (v:=v) rfl (aw v) rfl (rj _) ((V.PF _ (AAf _)).away 7) hfi k
  have tk:∀(y0 y1 y2 y3 y4 y5 y7:V) (q:Fl) (R:List V),BR [a,b,c,d,e,vG .sh g,vJ j,.agg tWk [y0,y1,y2,y3,y4,y5,.lst 70 q R,y7]] 48 (.ref 7 [6] 48)=some (.lst 70 q R,[a,b,c,d,e,vG .sh g,vJ j,.agg tWk [y0,y1,y2,y3,y4,y5,.lst 70 q.wk R,y7]]):=
   fun y0 y1 y2 y3 y4 y5 y7 q R=>Rx (h:=[a,b,c,d,e,vG .sh g,vJ j,.agg tWk [y0,y1,y2,y3,y4,y5,.lst 70 q R,y7]]) (id:=7) rfl rfl
  have sb6:∀p t,Du (.ref 7 [] 68) (.ref 7 p t)=true:=fun _ _=>rfl
  have sb4:Du (.ref 6 [] 26) (.ref 6 [] 26)=true:=rfl
  have df:(JL (.ref 7 [] 68) (.ref 6 [] 26)&&true)=true:=rfl
  have nn:Ag (.ref 7 [] 68)=some (.ref 7 [] 68):=rfl
  have ap:∀h:List V,FU 70 (tyG Ld) false h (.lst 70 f (xs.map A7)) (.lst 70 .own [A7 (firstX j (L[i]:Int))])=some (.lst 70 .own ((xs++[firstX j (L[i]:Int)]).map A7)):=fun h=>by
   have cl:AU [A7 (firstX j (L[i]:Int))]=true:=rfl
   have ty:[A7 (firstX j (L[i]:Int))].all (tyG Ld)=true:=rfl
   rw[List.map_append]
   rcases hf with rfl|rfl
   ·rw[Bj cl ty (by simp;omega)];rfl
   ·rw[Bf cl ty (by simp;omega)];rfl
  have e:xs++(L.drop i).map (fun(v:Nat)=>firstX j (v:Int))=xs++[firstX j (L[i]:Int)]++(L.drop (i+1)).map (fun(v:Nat)=>firstX j (v:Int)):=by
   rw[List.drop_eq_getElem_cons h,List.map_cons,List.append_assoc];rfl
  rw[e,←ih',IQ]
  clear ih ih' e aw hL hfi
  generalize firstX j (L[i]:Int)=y at*
  generalize (L[i]:Int)=z at*
  generalize (i+1:Nat)=i2 at*
  generalize (L.length:Int)=ll at*
  generalize TS .sh L=LL at*
  rcases hf with rfl|rfl
  all_goals (repeat' with_reducible first|refine(CO _ _).trans ?_|refine(CV _ _).trans ?_|refine(AO _ _).trans ?_|((first|(refine' (AA ?_ _).trans ?_;rotate_left)|refine(if_pos ?_).trans ?_|refine(BL ?_ _ _).trans ?_);focus (first|rfl|(simp(disch:=first|assumption|omega|with_reducible rfl|(simp only[go_sem]<;>omega)|fail) only[↓reduceIte,↓AO,Nat.reduceAdd,go_sem,Bool.not_true,Bool.not_false,ls,ix,df,nn,sb6,tk,sb4,rj,Np,Nq]<;>first|rfl|omega)|assumption|omega))|(refine(BA ?_ _ _).trans ?_;focus (first|(simp(disch:=first|assumption|omega|with_reducible rfl|(simp only[go_sem]<;>omega)|fail) only[↓reduceIte,↓AO,Nat.reduceAdd,go_sem,Bool.not_true,Bool.not_false,ls,ix,df,nn,sb6,tk,sb4,rj,Np,Nq]<;>omega)|assumption|omega))|fail)
  all_goals refine(cf _ _).trans ?_
  all_goals (repeat' with_reducible first|refine(CO _ _).trans ?_|refine(CV _ _).trans ?_|refine(AO _ _).trans ?_|((first|(refine' (AA ?_ _).trans ?_;rotate_left)|refine(if_pos ?_).trans ?_|refine(BL ?_ _ _).trans ?_);focus (first|rfl|(simp(disch:=first|assumption|omega|with_reducible rfl|(simp only[go_sem]<;>omega)|fail) only[↓reduceIte,↓AO,Nat.reduceAdd,go_sem,Bool.not_true,Bool.not_false,ap,nn,ad]<;>first|rfl|omega)|assumption|omega))|(refine(BA ?_ _ _).trans ?_;focus (first|(simp(disch:=first|assumption|omega|with_reducible rfl|(simp only[go_sem]<;>omega)|fail) only[↓reduceIte,↓AO,Nat.reduceAdd,go_sem,Bool.not_true,Bool.not_false,ap,nn,ad]<;>omega)|assumption|omega))|fail)
  all_goals rfl
end
section
variable {a b c d e:V}
theorem AI1 {g:Grf} (hl:g.es.length<1000000) {j:Job} (hj:Dz g j=true) {N w:Nat} (h1:1≤N) (hN:N≤64) (hw:w<N) (ha:BM 7 [a,b,c,d,e]=true):∃f':Fl,(f'= .own∨f'= .nil)∧
 Cl 6 [vG .sh g,vJ j,.int .i64 (N:Int),.int .i64 (w:Int)] [a,b,c,d,e]=some (.tup [.ref 7 [] 68,.int .i64 0],[a,b,c,d,e,vG .sh g,vJ j,vWk g j N w f' (O7 g j N w)]):=by
 have hg':=KI hj
 have hlen:=MR g.n.toNat N w
 obtain⟨f',hf',lp⟩:=AI0 (g:=g) (j:=j) (N:=N) (w:=w) ha (L:=ofL g.n.toNat N w) (fun v hv=>by have:=Rw hv;omega) (by omega) (ofL g.n.toNat N w).length 0 .nil [] (by omega) rfl (Or.inr rfl)
 refine⟨f',hf',?_⟩
 rw[List.drop_zero,List.nil_append]at lp
 have hc:=KH hl j
 rw[if_pos hj]at hc
 have hof:=AAs (n:=g.n.toNat) (N:=N) (w:=w) (by omega) (by omega) (by omega) hN hw
 rw[show(g.n.toNat:Int)=g.n by omega]at hof
 have ce:=OB (l:=g.es) (by omega)
 rw[show O7 g j N w=(ofL g.n.toNat N w).map (fun(v:Nat)=>firstX j (v:Int))from rfl,←lp,AFW]
 have lL:EJ (TS .sh (ofL g.n.toNat N w))=some (.int .i64 ((ofL g.n.toNat N w).length:Int)):=by show some _=_;rw[List.length_map]
 clear lp hlen
 generalize ofL g.n.toNat N w=L at*
 simp(disch:=first|assumption|omega|(with_reducible rfl)|(simp only[go_sem];done)|(simp only[go_sem];omega)|fail) only[↓reduceIte,↓AO,Nat.reduceAdd,go_sem,hc,hof,ce,lL]
 rfl
end
end
section
open Go AM
section
variable {a b c d e b1 b2 b3:V}
theorem AI2 {g:Grf} {j:Job} {N w:Nat} (ha:BM 10 [a,b,c,d,e,b1,b2,b3]=true) {L:List Nat} (hL:∀v∈L,v<64) (hn:L.length≤64):∀(n i:Nat) (f:Fl) (xs:List Vtx),i+n=L.length→xs.length=i→(f= .own∨f= .nil)→∃f':Fl,(f'= .own∨f'= .nil)∧
 Tq (.ref 9 [] 26) (.ref 10 [] 68) (TS .sh L) (.int .i64 (L.length:Int)) (.int .i64 (i:Int)) 8 [a,b,c,d,e,b1,b2,b3,vG .sh g,vJ j,vWk g j N w f xs]=
  some (.tup [.ref 10 [] 68,.int .i64 0],[a,b,c,d,e,b1,b2,b3,vG .sh g,vJ j,vWk g j N w f' (xs++(L.drop i).map fun(v:Nat)=>firstX j (v:Int))]):=by
 intro n
 induction n with
 |zero=>
  intro i f xs hi hx hf
  refine⟨f,hf,?_⟩
  have ls:AL .lss (.int .i64 (i:Int)) (.int .i64 (L.length:Int))=some (.bool false):=by rw[b_lss,decide_eq_false (by omega)]
  rw[List.drop_eq_nil_of_le (by omega),List.map_nil,List.append_nil,IQ]
  simp(disch:=first|assumption|omega|(with_reducible rfl)|(simp only[go_sem];done)|(simp only[go_sem];omega)|fail) only[↓reduceIte,↓AO,Nat.reduceAdd,go_sem,ls]
  rfl
 |succ n ih=>
  intro i f xs hi hx hf
  have h:i<L.length:=by omega
  have hv:=hL _ (List.getElem_mem h)
  obtain⟨f',hf',ih'⟩:=ih (i+1) .own (xs++[firstX j (L[i]:Int)]) (by omega) (by simp;omega) (Or.inl rfl)
  refine⟨f',hf',?_⟩
  have ls:AL .lss (.int .i64 (i:Int)) (.int .i64 (L.length:Int))=some (.bool true):=by rw[b_lss,decide_eq_true (by omega)]
  have ix:D9 3 (TS .sh L) (.int .i64 (i:Int))=some (.rop 3 (.int .i64 (L[i]:Int))):=by
   rw[TS,DL,List.getElem?_map,List.getElem?_eq_getElem h];rfl
  have hfi:=Ru j (v:=(L[i]:Int)) (by omega) (by omega)
  have ad:AL .add (.int .i64 (i:Int)) (.int .i64 1)=some (.int .i64 ((i+1:Nat):Int)):=by rw[Bq,wrap_i64 (by omega) (by omega)];rfl
  have pg:(vG .sh g).pl=true:=by simp only[go_sem]
  have aw:∀v:V,BM 10 ([a,b,c,d,e,b1,b2,b3,vG .sh g,vJ j,v].set 10 void)=true:=by
   intro v
   simp only[BM,Bool.and_eq_true]at ha
   simp only[List.set_cons_succ,List.set_cons_zero,BM,ha.1,ha.2.1,ha.2.2.1,ha.2.2.2.1,ha.2.2.2.2.1,ha.2.2.2.2.2.1,ha.2.2.2.2.2.2.1,ha.2.2.2.2.2.2.2.1,(V.PF _ pg).away];rfl
  have rj:∀h:List V,AB h [vJ j,.int .i64 (L[i]:Int)]=[vJ j,.int .i64 (L[i]:Int)]:=fun h=>rfl
  have cf:∀(v:V) (k:V→List V→Rv),Dt P CX W (some (.ref 10 [] 68)) (.clo 23 []) [vJ j,.int .i64 (L[i]:Int)] [a,b,c,d,e,b1,b2,b3,vG .sh g,vJ j,v] k=k (A7 (firstX j (L[i]:Int))) [a,b,c,d,e,b1,b2,b3,vG .sh g,vJ j,v]:=
   fun v k=>Lj (by kernel_rfl) (by kernel_rfl) (v:=v) rfl (aw v) rfl (rj _) ((V.PF _ (AAf _)).away 10) hfi k
  have tk:∀(y0 y1 y2 y3 y4 y5 y7:V) (q:Fl) (R:List V),BR [a,b,c,d,e,b1,b2,b3,vG .sh g,vJ j,.agg tWk [y0,y1,y2,y3,y4,y5,.lst 70 q R,y7]] 48 (.ref 10 [6] 48)=some (.lst 70 q R,[a,b,c,d,e,b1,b2,b3,vG .sh g,vJ j,.agg tWk [y0,y1,y2,y3,y4,y5,.lst 70 q.wk R,y7]]):=
   fun y0 y1 y2 y3 y4 y5 y7 q R=>Rx (h:=[a,b,c,d,e,b1,b2,b3,vG .sh g,vJ j,.agg tWk [y0,y1,y2,y3,y4,y5,.lst 70 q R,y7]]) (id:=10) rfl rfl
  have sb6:∀p t,Du (.ref 10 [] 68) (.ref 10 p t)=true:=fun _ _=>rfl
  have sb4:Du (.ref 9 [] 26) (.ref 9 [] 26)=true:=rfl
  have df:(JL (.ref 10 [] 68) (.ref 9 [] 26)&&true)=true:=rfl
  have nn:Ag (.ref 10 [] 68)=some (.ref 10 [] 68):=rfl
  have ap:∀h:List V,FU 70 (tyG Ld) false h (.lst 70 f (xs.map A7)) (.lst 70 .own [A7 (firstX j (L[i]:Int))])=some (.lst 70 .own ((xs++[firstX j (L[i]:Int)]).map A7)):=fun h=>by
   have cl:AU [A7 (firstX j (L[i]:Int))]=true:=rfl
   have ty:[A7 (firstX j (L[i]:Int))].all (tyG Ld)=true:=rfl
   rw[List.map_append]
   rcases hf with rfl|rfl
   ·rw[Bj cl ty (by simp;omega)];rfl
   ·rw[Bf cl ty (by simp;omega)];rfl
  have e:xs++(L.drop i).map (fun(v:Nat)=>firstX j (v:Int))=xs++[firstX j (L[i]:Int)]++(L.drop (i+1)).map (fun(v:Nat)=>firstX j (v:Int)):=by
   rw[List.drop_eq_getElem_cons h,List.map_cons,List.append_assoc];rfl
  rw[e,←ih',IQ]
  clear ih ih' e aw hL hfi
  generalize firstX j (L[i]:Int)=y at*
  generalize (L[i]:Int)=z at*
  generalize (i+1:Nat)=i2 at*
  generalize (L.length:Int)=ll at*
  generalize TS .sh L=LL at*
  rcases hf with rfl|rfl
  all_goals (repeat' with_reducible first|refine(CO _ _).trans ?_|refine(CV _ _).trans ?_|refine(AO _ _).trans ?_|((first|(refine' (AA ?_ _).trans ?_;rotate_left)|refine(if_pos ?_).trans ?_|refine(BL ?_ _ _).trans ?_);focus (first|rfl|(simp(disch:=first|assumption|omega|with_reducible rfl|(simp only[go_sem]<;>omega)|fail) only[↓reduceIte,↓AO,Nat.reduceAdd,go_sem,Bool.not_true,Bool.not_false,ls,ix,df,nn,sb6,tk,sb4,rj,Np,Nq]<;>first|rfl|omega)|assumption|omega))|(refine(BA ?_ _ _).trans ?_;focus (first|(simp(disch:=first|assumption|omega|with_reducible rfl|(simp only[go_sem]<;>omega)|fail) only[↓reduceIte,↓AO,Nat.reduceAdd,go_sem,Bool.not_true,Bool.not_false,ls,ix,df,nn,sb6,tk,sb4,rj,Np,Nq]<;>omega)|assumption|omega))|fail)
  all_goals refine(cf _ _).trans ?_
  all_goals (repeat' with_reducible first|refine(CO _ _).trans ?_|refine(CV _ _).trans ?_|refine(AO _ _).trans ?_|((first|(refine' (AA ?_ _).trans ?_;rotate_left)|refine(if_pos ?_).trans ?_|refine(BL ?_ _ _).trans ?_);focus (first|rfl|(simp(disch:=first|assumption|omega|with_reducible rfl|(simp only[go_sem]<;>omega)|fail) only[↓reduceIte,↓AO,Nat.reduceAdd,go_sem,Bool.not_true,Bool.not_false,ap,nn,ad]<;>first|rfl|omega)|assumption|omega))|(refine(BA ?_ _ _).trans ?_;focus (first|(simp(disch:=first|assumption|omega|with_reducible rfl|(simp only[go_sem]<;>omega)|fail) only[↓reduceIte,↓AO,Nat.reduceAdd,go_sem,Bool.not_true,Bool.not_false,ap,nn,ad]<;>omega)|assumption|omega))|fail)
  all_goals rfl
end
section
variable {a b c d e b1 b2 b3:V}
theorem AI3 {g:Grf} (hl:g.es.length<1000000) {j:Job} (hj:Dz g j=true) {N w:Nat} (h1:1≤N) (hN:N≤64) (hw:w<N) (ha:BM 10 [a,b,c,d,e,b1,b2,b3]=true):∃f':Fl,(f'= .own∨f'= .nil)∧
 Cl 6 [vG .sh g,vJ j,.int .i64 (N:Int),.int .i64 (w:Int)] [a,b,c,d,e,b1,b2,b3]=some (.tup [.ref 10 [] 68,.int .i64 0],[a,b,c,d,e,b1,b2,b3,vG .sh g,vJ j,vWk g j N w f' (O7 g j N w)]):=by
 have hg':=KI hj
 have hlen:=MR g.n.toNat N w
 obtain⟨f',hf',lp⟩:=AI2 (g:=g) (j:=j) (N:=N) (w:=w) ha (L:=ofL g.n.toNat N w) (fun v hv=>by have:=Rw hv;omega) (by omega) (ofL g.n.toNat N w).length 0 .nil [] (by omega) rfl (Or.inr rfl)
 refine⟨f',hf',?_⟩
 rw[List.drop_zero,List.nil_append]at lp
 have hc:=KH hl j
 rw[if_pos hj]at hc
 have hof:=AAs (n:=g.n.toNat) (N:=N) (w:=w) (by omega) (by omega) (by omega) hN hw
 rw[show(g.n.toNat:Int)=g.n by omega]at hof
 have ce:=OB (l:=g.es) (by omega)
 rw[show O7 g j N w=(ofL g.n.toNat N w).map (fun(v:Nat)=>firstX j (v:Int))from rfl,←lp,AFW]
 have lL:EJ (TS .sh (ofL g.n.toNat N w))=some (.int .i64 ((ofL g.n.toNat N w).length:Int)):=by show some _=_;rw[List.length_map]
 clear lp hlen
 generalize ofL g.n.toNat N w=L at*
 simp(disch:=first|assumption|omega|(with_reducible rfl)|(simp only[go_sem];done)|(simp only[go_sem];omega)|fail) only[↓reduceIte,↓AO,Nat.reduceAdd,go_sem,hc,hof,ce,lL]
 rfl
end
end
section
open Go AM
end
section
open Go AM
theorem AEU {j:Job} (hk:Fb j.tag=true) (v:Int):(firstX j v).id=v:=by
 unfold firstX
 rw[if_pos hk]
theorem AEV {l:List Vtx} (hn:l.length≤1000000):∀(m i:Nat),i+m=l.length→VS (.lst 70 .sh (l.map A7)) (.lst 70 .sh (l.map A7)) (.int .i64 (i:Int))=some (.bool true,[]):=by
 intro m
 induction m with
 |zero=>
  intro i hi
  have ls:AL .lss (.int .i64 (i:Int)) (.int .i64 ((l.map A7).length:Int))=some (.bool false):=by rw[b_lss,List.length_map,decide_eq_false (by omega)]
  rw[Tv]
  generalize l.map A7=L at*
  (repeat' with_reducible first|refine(CO _ _).trans ?_|refine(CV _ _).trans ?_|refine(AO _ _).trans ?_|((first|(refine' (AA ?_ _).trans ?_;rotate_left)|refine(if_pos ?_).trans ?_|refine(BL ?_ _ _).trans ?_);focus (first|rfl|(simp(disch:=first|assumption|omega|with_reducible rfl|(simp only[go_sem]<;>omega)|fail) only[↓reduceIte,↓AO,Nat.reduceAdd,go_sem,Bool.not_true,Bool.not_false,ls]<;>first|rfl|omega)|assumption|omega))|(refine(BA ?_ _ _).trans ?_;focus (first|(simp(disch:=first|assumption|omega|with_reducible rfl|(simp only[go_sem]<;>omega)|fail) only[↓reduceIte,↓AO,Nat.reduceAdd,go_sem,Bool.not_true,Bool.not_false,ls]<;>omega)|assumption|omega))|fail)
  rfl
 |succ m ih=>
  intro i hi
  have h:i<l.length:=by omega
  have ls:AL .lss (.int .i64 (i:Int)) (.int .i64 ((l.map A7).length:Int))=some (.bool true):=by rw[b_lss,List.length_map,decide_eq_true (by omega)]
  have ix:D9 70 (V.weak (.lst 70 .sh (l.map A7))) (.int .i64 (i:Int))=some (.rop 70 (A7 l[i])):=by
   show D9 _ (.lst _ .sh _) _=_
   rw[DL,List.getElem?_map,List.getElem?_eq_getElem h];rfl
  have ad:AL .add (.int .i64 (i:Int)) (.int .i64 1)=some (.int .i64 ((i+1:Nat):Int)):=by rw[Bq,wrap_i64 (by omega) (by omega)];rfl
  have ne:Tm (tyG Ld) .neq (A7 l[i]) (A7 l[i])=some (.bool false):=by
   simp[Tm,tyG,A7,KX,MB]
  have ld:∀x:Vtx,AX [] 70 (.rop 70 (A7 x))=some (A7 x):=fun x=>by simp only[AX,if_true]
  rw[←ih (i+1) (by omega),Tv]
  clear ih
  generalize A7 l[i]=x at*
  generalize (i+1:Nat)=i2 at*
  generalize l.map A7=L at*
  have ld':AX [] 70 (.rop 70 x)=some x:=by simp only[AX,if_true]
  (repeat' with_reducible first|refine(CO _ _).trans ?_|refine(CV _ _).trans ?_|refine(AO _ _).trans ?_|((first|(refine' (AA ?_ _).trans ?_;rotate_left)|refine(if_pos ?_).trans ?_|refine(BL ?_ _ _).trans ?_);focus (first|rfl|(simp(disch:=first|assumption|omega|with_reducible rfl|(simp only[go_sem]<;>omega)|fail) only[↓reduceIte,↓AO,Nat.reduceAdd,go_sem,Bool.not_true,Bool.not_false,ls,ix,ld',ne,ad]<;>first|rfl|omega)|assumption|omega))|(refine(BA ?_ _ _).trans ?_;focus (first|(simp(disch:=first|assumption|omega|with_reducible rfl|(simp only[go_sem]<;>omega)|fail) only[↓reduceIte,↓AO,Nat.reduceAdd,go_sem,Bool.not_true,Bool.not_false,ls,ix,ld',ne,ad]<;>omega)|assumption|omega))|fail)
  rfl
theorem AEW {l:List Vtx} (hn:l.length≤1000000):Cl 14 [.lst 70 .sh (l.map A7),.lst 70 .sh (l.map A7)] []=some (.bool true,[]):=by
 have lp:=AEV hn l.length 0 (by omega)
 have ne:AL .neq (.int .i64 ((l.map A7).length:Int)) (.int .i64 ((l.map A7).length:Int))=some (.bool false):=by rw[b_neq];simp
 rw[←lp,AOV]
 clear lp
 generalize l.map A7=L at*
 (repeat' with_reducible first|refine(CO _ _).trans ?_|refine(CV _ _).trans ?_|refine(AO _ _).trans ?_|((first|(refine' (AA ?_ _).trans ?_;rotate_left)|refine(if_pos ?_).trans ?_|refine(BL ?_ _ _).trans ?_);focus (first|rfl|(simp(disch:=first|assumption|omega|with_reducible rfl|(simp only[go_sem]<;>omega)|fail) only[↓reduceIte,↓AO,Nat.reduceAdd,go_sem,Bool.not_true,Bool.not_false,ne]<;>first|rfl|omega)|assumption|omega))|(refine(BA ?_ _ _).trans ?_;focus (first|(simp(disch:=first|assumption|omega|with_reducible rfl|(simp only[go_sem]<;>omega)|fail) only[↓reduceIte,↓AO,Nat.reduceAdd,go_sem,Bool.not_true,Bool.not_false,ne]<;>omega)|assumption|omega))|fail)
 rfl
end
section
namespace AM
open Go
mutual
def Uy (P:Program) (A:Ann) (Q:FuncId→List V→List V→Option (V×List V)):Nat→FuncId→List V→List V→Option (V×List V)
 |0,_,_,_=>none
 |k+1,f,vs,h=>match Q f vs h with
  |some r=>some r
  |none=>body P A ⟨Uy P A Q k,Uz P A Q k⟩ f vs h
def Uz (P:Program) (A:Ann) (Q:FuncId→List V→List V→Option (V×List V)):Nat→FuncId→Nat→Code→St→Option (Ex×St)
 |0,_,_,_,_=>none
 |k+1,fn,blk,b,st=>round P A ⟨Uy P A Q k,Uz P A Q k⟩ fn blk b st
end
theorem Orc.le.limO {O O':Orc} (hl:Orc.le O O'):LimO (fun n=>if n=0 then O else O') O':=by
 constructor
 ·intro f vs h
  refine⟨fun n r hr=> ?_,fun r=>⟨fun hr=>⟨1,by simpa using hr⟩,fun⟨n,hn⟩=> ?_⟩⟩
  ·by_cases h0:n=0
   ·subst h0;simpa using hl.1 _ _ _ _ (by simpa using hr)
   ·simpa [h0]using hr
  ·by_cases h0:n=0
   ·subst h0;exact hl.1 _ _ _ _ (by simpa using hn)
   ·simpa [h0]using hn
 ·intro fn blk b st
  refine⟨fun n r hr=> ?_,fun r=>⟨fun hr=>⟨1,by simpa using hr⟩,fun⟨n,hn⟩=> ?_⟩⟩
  ·by_cases h0:n=0
   ·subst h0;simpa using hl.2 _ _ _ _ _ (by simpa using hr)
   ·simpa [h0]using hr
  ·by_cases h0:n=0
   ·subst h0;exact hl.2 _ _ _ _ _ (by simpa using hn)
   ·simpa [h0]using hn
theorem BI {P:Program} {A:Ann} {Q:FuncId→List V→List V→Option (V×List V)} (hQ:∀f vs h r,Q f vs h=some r→JB P A f vs h=some r) (k:Nat):
 (∀f vs h r,Uy P A Q k f vs h=some r→JB P A f vs h=some r)∧(∀fn blk b st r,Uz P A Q k fn blk b st=some r→Ti P A fn blk b st=some r):=by
 induction k with
 |zero=>exact⟨fun _ _ _ _ h=>by simp[Uy]at h,fun _ _ _ _ _ h=>by simp[Uz]at h⟩
 |succ k ih=>
  have hl:Orc.le ⟨Uy P A Q k,Uz P A Q k⟩ (JP P A):=ih
  constructor
  ·intro f vs h r hr
   simp only[Uy]at hr
   split at hr
   ·rename_i e;rw[←Option.some.inj hr];exact hQ _ _ _ _ e
   ·rw[Xm]
    have:=(QN (P:=P) (A:=A) hl.limO f vs h).up 0 r (by simpa using hr)
    simpa using this
  ·intro fn blk b st r hr
   simp only[Uz]at hr
   rw[Xn]
   have:=(NY (P:=P) (A:=A) hl.limO fn blk b st).up 0 r (by simpa using hr)
   simpa using this
end AM
end
section
open Go AM
def AI4:List V→Option (List UInt8)
 |[]=>some []
 | .int .u8 (.ofNat n)::l=>if n<256 then(AI4 l).map (UInt8.ofNat n::·)else none
 |_=>none
def AI5:List V→Option (List (Fl×List UInt8))
 |[]=>some []
 | .lst e f xs::l=>if e=5 then(AI4 xs).bind fun b=>(AI5 l).map ((f,b)::·)else none
 |_=>none
theorem ADT:∀(xs:List V) (l:List UInt8),AI4 xs=some l→xs=bytesOf l
 |[],l,h=>by simp[AI4]at h;subst h;rfl
 |x::xs,l,h=>by
  unfold AI4 at h
  split at h
  ·rename_i e;exact absurd e (by simp)
  ·rename_i n l' e
   cases e
   split at h
   ·rename_i hn
    obtain⟨l',h1,rfl⟩:=Option.map_eq_some_iff.1 h
    rw[ADT xs l' h1]
    simp[bytesOf,Nat.mod_eq_of_lt hn]
   ·cases h
  ·cases h
theorem ADU:∀(xs:List V) (L:List (Fl×List UInt8)),AI5 xs=some L→xs=parts L
 |[],l,h=>by simp[AI5]at h;subst h;rfl
 |x::xs,l,h=>by
  unfold AI5 at h
  split at h
  ·rename_i e;exact absurd e (by simp)
  ·rename_i e f ys l' he
   cases he
   split at h
   ·rename_i hn
    subst hn
    obtain⟨b,h1,h2⟩:=Option.bind_eq_some_iff.1 h
    obtain⟨l',h3,rfl⟩:=Option.map_eq_some_iff.1 h2
    rw[ADU xs l' h3,ADT ys b h1]
    simp[parts];rfl
   ·cases h
  ·cases h
def ATp:List V→List V→Option (V×List V)
 |[.lst e fl xs],[]=>if e=117 then(AI5 xs).bind fun L=>if L.length<2147483648∧(flat L).length<2147480000∧0<(flat L).length then some (Bh (Ye (flat L)),[])else none else none
 |_,_=>none
def oq (f:FuncId) (vs h:List V):Option (V×List V):=
 bif Nat.beq f 114 then ATp vs h else none
theorem ATq {a b:Nat} (h:¬a=b):Nat.beq a b=false:=by
 cases e:Nat.beq a b with
 |false=>rfl
 |true=>exact absurd (Nat.eq_of_beq_eq_true e) h
theorem ATr (f:FuncId) (vs h:List V) (r:V×List V) (e:oq f vs h=some r):Cl f vs h=some r:=by
 unfold oq at e
 by_cases h1:f=114
 ·subst h1
  rw[show Nat.beq 114 114=true from rfl,cond_true]at e
  unfold ATp at e
  split at e
  ·rename_i a fl xs
   split at e
   ·rename_i ha
    subst ha
    obtain⟨L,h2,h3⟩:=Option.bind_eq_some_iff.1 e
    split at h3
    ·rename_i hc
     rw[←Option.some.inj h3,ADU xs L h2]
     exact Yg L hc.1 fl hc.2.1 hc.2.2
    ·cases h3
   ·cases e
  ·cases e
 ·rw[ATq h1]at e
  cases e
end
section
open Go AM
def ANn:List V→List V→Option (V×List V)
 |[.str s],[]=>if s.length<2147480000 then some (.str (Ye s),[])else none
 |_,_=>none
def oq2 (f:FuncId) (vs h:List V):Option (V×List V):=
 bif Nat.beq f 92 then ANn vs h else oq f vs h
theorem Cc (f:FuncId) (vs h:List V) (r:V×List V) (e:oq2 f vs h=some r):Cl f vs h=some r:=by
 unfold oq2 at e
 by_cases h1:f=92
 ·subst h1
  rw[show Nat.beq 92 92=true from rfl,cond_true]at e
  unfold ANn at e
  split at e
  ·rename_i s
   split at e
   ·rename_i hc
    rw[←Option.some.inj e]
    exact AHz hc
   ·cases e
  ·cases e
 ·rw[ATq h1]at e
  exact ATr f vs h r e
end
section
open Go AM
structure Ent where
 f:FuncId
 vs:List V
 h:List V
 r:V×List V
def Ent.ok (e:Ent):Prop:=Cl e.f e.vs e.h=some e.r
def lkE (T:List Ent) (Q:FuncId→List V→List V→Option (V×List V)) (f:FuncId) (vs h:List V):Option (V×List V):=
 match T.find? fun e=>Nat.beq e.f f&&JJ e.vs vs&&JJ e.h h with
 |some e=>some e.r
 |none=>Q f vs h
theorem Ce {T:List Ent} {Q:FuncId→List V→List V→Option (V×List V)} (hT:∀e∈T,e.ok) (hQ:∀f vs h r,Q f vs h=some r→Cl f vs h=some r) (f:FuncId) (vs h:List V) (r:V×List V) (hr:lkE T Q f vs h=some r):Cl f vs h=some r:=by
 unfold lkE at hr
 split at hr
 ·rename_i e he
  have h1:=List.find?_some he
  have h2:=hT e (List.mem_of_find?_eq_some he)
  simp only[Bool.and_eq_true]at h1
  obtain⟨⟨h3,h4⟩,h5⟩:=h1
  rw[←Option.some.inj hr,←Nat.eq_of_beq_eq_true h3,←Fz _ _ h4,←Fz _ _ h5]
  exact h2
 ·exact hQ _ _ _ _ hr
def by8 (l:List Int):List V:=l.map (V.int .u8)
def AI6:List V:=[.int .i64 0,.int .i64 1,.int .i64 5]
def ER:V:= .agg 23 [.int .i64 2,.lst 52 .sh [.agg 51 AI6]]
def ANo:V:= .agg 69 [.int .i64 0,.int .i64 0,.bool true,.bool false,.int .i64 0]
def ANp:V:= .agg 69 [.int .i64 1,.int .i64 (-1),.bool true,.bool false,.int .i64 0]
def ZP:List V:=[ANo,ANp]
def ANq:V:= .str [67,0,0,122,108,79,21,176,240,237,199,155,2,210,19,58,124,119,200,225,82,232,215,247,145,243,145,125,218,178,100,224,26,96,18,1,42,237,57,191,39,46,253,156,91,120,169,228,39,137,60,170,135,93,169,73,212,32,122,104,196,31,46,52,187,254,72,237]
def AAx:V:= .agg 40 [.int .i64 0,ANq,.lst 9 .sh [.str [1,3,0,1,10]]]
def MX:V:= .agg 44 (by8 [150,43,153,188,10,22,125,174,31,250,120,209,18,105,255,193,73,34,213,37,202,22,214,2,72,242,199,202,168,105,70,3])
def Ie:V:= .agg 25 [.str [115,115,115,112],.int .i64 0,.int .i64 3]
def ANr:V:= .agg 69 [.int .i64 0,.int .i64 0,.bool false,.bool false,.int .i64 0]
def ANs:V:= .agg 69 [.int .i64 1,.int .i64 (-1),.bool false,.bool false,.int .i64 0]
def AEX:List V:=[ANr,ANs]
def AEY:V:= .agg 67 [ER,Ie,.int .i64 1,.int .i64 0,.int .i64 1,.lst 70 .sh ZP,.lst 70 .sh AEX,.bool true]
def AI7:V:= .lst 45 .sh [.agg 44 (by8 [16,72,125,134,206,53,132,225,86,135,78,217,178,101,14,141,119,42,141,31,219,177,201,17,27,247,226,251,202,177,140,203])]
def AI8:V:= .lst 45 .sh [.agg 44 (by8 [176,246,106,220,131,100,21,134,101,104,102,129,63,217,221,11,142,187,99,121,96,117,102,27,164,93,26,168,8,158,29,68])]
def AQx:V:= .agg 56 [.int .i64 1,.str [1,1,1,0,0],.str [1,1,0,0,0],AI7,AI8]
def AAy:V:= .agg 67 [ER,Ie,.int .i64 1,.int .i64 0,.int .i64 0,.lst 70 .nil [],.lst 70 .own ZP,.bool false]
def AMa:V:= .agg 44 (by8 [122,108,79,21,176,240,237,199,155,2,210,19,58,124,119,200,225,82,232,215,247,145,243,145,125,218,178,100,224,26,96,18])
def U0:V:= .lst 103 .sh [.agg 102 AI6]
def ANt:V:= .agg 93 [.int .i64 0,.int .i64 0,AMa,.lst 45 .sh [.agg 44 (by8 [42,237,57,191,39,46,253,156,91,120,169,228,39,137,60,170,135,93,169,73,212,32,122,104,196,31,46,52,187,254,72,237])]]
def Rz:V:= .lst 103 .sh []
def AI9:V:= .agg 40 [.int .i64 0,.str [],.lst 9 .nil []]
def ANu:List V:=[ER,ER,Ie,AAy,MX,.ref 3 [] 68,.int .i64 0,Rz,AI9,.lst 70 .own ZP,.lst 70 .nil [],.lst 103 .nil []]
def AJA:List V:=[ER,ER,Ie,AEY,MX,AAx,AQx]
def T0:List Ent:=[]
theorem ANv:∀e∈T0,e.ok:=by intro e he;cases he
def T1:List Ent:=⟨6,[ER,Ie,.int .i64 1,.int .i64 0],[ER],(.tup [.ref 3 [] 68,.int .i64 0],[ER,ER,Ie,AAy])⟩::T0
theorem ANw:∀e∈T1,e.ok:=List.forall_mem_cons.2 ⟨(BI (Ce ANv Cc) 400).1 _ _ _ _ (by kernel_rfl),ANv⟩
def T2:List Ent:=⟨26,[.lst 70 .sh ZP],[],(.lst 9 .sh [.str [0,0,1,0,0],.str [1,1,1,0,0]],[])⟩::T1
theorem ANx:∀e∈T2,e.ok:=List.forall_mem_cons.2 ⟨(BI (Ce ANw Cc) 400).1 _ _ _ _ (by kernel_rfl),ANw⟩
def T3:List Ent:=⟨44,[.lst 70 .sh ZP],[],(MX,[])⟩::T2
theorem ANy:∀e∈T3,e.ok:=List.forall_mem_cons.2 ⟨(BI (Ce ANx Cc) 400).1 _ _ _ _ (by kernel_rfl),ANx⟩
def T4:List Ent:=⟨13,[.ref 3 [] 68],[ER,ER,Ie,AAy],(MX,[ER,ER,Ie,AAy])⟩::T3
theorem ANz:∀e∈T4,e.ok:=List.forall_mem_cons.2 ⟨(BI (Ce ANy Cc) 400).1 _ _ _ _ (by kernel_rfl),ANy⟩
def T5:List Ent:=⟨37,[.str [115,115,115,112],Rz,.int .i64 0],[],(.tup [.int .i64 0,.bool false,.int .i64 0],[])⟩::T4
theorem AN0:∀e∈T5,e.ok:=List.forall_mem_cons.2 ⟨(BI (Ce ANz Cc) 400).1 _ _ _ _ (by kernel_rfl),ANz⟩
def T6:List Ent:=⟨37,[.str [115,115,115,112],Rz,.int .i64 1],[],(.tup [.int .i64 0,.bool false,.int .i64 0],[])⟩::T5
theorem AN1:∀e∈T6,e.ok:=List.forall_mem_cons.2 ⟨(BI (Ce AN0 Cc) 400).1 _ _ _ _ (by kernel_rfl),AN0⟩
def T7:List Ent:=⟨35,[.lst 70 .sh ZP,.clo 36 [.ref 5 [] 30,.ref 7 [] 36,.ref 9 [] 48]],[ER,ER,Ie,AAy,MX,.ref 3 [] 68,.int .i64 0,Rz,AI9,.lst 70 .nil [],.lst 70 .nil [],.lst 103 .nil []],(.int .i64 0,ANu)⟩::T6
theorem AN2:∀e∈T7,e.ok:=List.forall_mem_cons.2 ⟨(BI (Ce AN1 Cc) 400).1 _ _ _ _ (by kernel_rfl),AN1⟩
def T8:List Ent:=⟨39,[ER,Ie,.int .i64 0,ANo],[],(.tup [ANr,U0,.int .i64 0],[])⟩::T7
theorem AN3:∀e∈T8,e.ok:=List.forall_mem_cons.2 ⟨(BI (Ce AN2 Cc) 400).1 _ _ _ _ (by kernel_rfl),AN2⟩
def T9:List Ent:=⟨39,[ER,Ie,.int .i64 0,ANp],[],(.tup [ANs,Rz,.int .i64 0],[])⟩::T8
theorem AN4:∀e∈T9,e.ok:=List.forall_mem_cons.2 ⟨(BI (Ce AN3 Cc) 400).1 _ _ _ _ (by kernel_rfl),AN3⟩
def T10:List Ent:=⟨35,[.lst 70 .sh ZP,.clo 38 [.ref 5 [] 30,.ref 6 [] 3,.ref 10 [] 48,.ref 11 [] 36]],ANu,(.int .i64 0,[ER,ER,Ie,AAy,MX,.ref 3 [] 68,.int .i64 0,Rz,AI9,.lst 70 .own ZP,.lst 70 .own AEX,.lst 103 .own [.agg 102 AI6]])⟩::T9
theorem AJB:∀e∈T10,e.ok:=List.forall_mem_cons.2 ⟨(BI (Ce AN4 Cc) 400).1 _ _ _ _ (by kernel_rfl),AN4⟩
def T11:List Ent:=⟨40,[.int .i64 1,U0],[],(.tup [.lst 36 .sh [U0],.int .i64 0],[])⟩::T10
theorem AJC:∀e∈T11,e.ok:=List.forall_mem_cons.2 ⟨(BI (Ce AJB Cc) 400).1 _ _ _ _ (by kernel_rfl),AJB⟩
def T12:List Ent:=⟨26,[.lst 70 .sh AEX],[],(.lst 9 .sh [.str [0,0,0,0,0],.str [1,1,0,0,0]],[])⟩::T11
theorem AJD:∀e∈T12,e.ok:=List.forall_mem_cons.2 ⟨(BI (Ce AJC Cc) 400).1 _ _ _ _ (by kernel_rfl),AJC⟩
def T13:List Ent:=⟨44,[.lst 70 .sh AEX],[],(AMa,[])⟩::T12
theorem AJE:∀e∈T13,e.ok:=List.forall_mem_cons.2 ⟨(BI (Ce AJD Cc) 400).1 _ _ _ _ (by kernel_rfl),AJD⟩
def T14:List Ent:=⟨41,[.int .i64 0,.int .i64 0,.lst 70 .sh AEX,.lst 36 .sh [U0]],[],(.tup [ANt,.int .i64 0],[])⟩::T13
theorem AJF:∀e∈T14,e.ok:=List.forall_mem_cons.2 ⟨(BI (Ce AJE Cc) 400).1 _ _ _ _ (by kernel_rfl),AJE⟩
def T15:List Ent:=⟨42,[ANt],[],(.tup [ANq,.int .i64 0],[])⟩::T14
theorem AJG:∀e∈T15,e.ok:=List.forall_mem_cons.2 ⟨(BI (Ce AJF Cc) 400).1 _ _ _ _ (by kernel_rfl),AJF⟩
def T16:List Ent:=⟨43,[U0],[],(.tup [.str [1,3,0,1,10],.int .i64 0],[])⟩::T15
theorem AJH:∀e∈T16,e.ok:=List.forall_mem_cons.2 ⟨(BI (Ce AJG Cc) 400).1 _ _ _ _ (by kernel_rfl),AJG⟩
def T17:List Ent:=⟨11,[.ref 3 [] 68,.int .i64 0,Rz],[ER,ER,Ie,AAy,MX],(AAx,[ER,ER,Ie,AEY,MX])⟩::T16
theorem AJI:∀e∈T17,e.ok:=List.forall_mem_cons.2 ⟨(BI (Ce AJH Cc) 400).1 _ _ _ _ (by kernel_rfl),AJH⟩
def T18:List Ent:=⟨16,[.str [1,3,0,1,10]],[],(.tup [U0,.int .i64 0],[])⟩::T17
theorem AJJ:∀e∈T18,e.ok:=List.forall_mem_cons.2 ⟨(BI (Ce AJI Cc) 400).1 _ _ _ _ (by kernel_rfl),AJI⟩
def T19:List Ent:=⟨48,[.lst 9 .sh [.str [0,0,1,0,0],.str [1,1,1,0,0]],.int .i64 1],[],(.tup [AI7,.int .i64 0],[])⟩::T18
theorem AJK:∀e∈T19,e.ok:=List.forall_mem_cons.2 ⟨(BI (Ce AJJ Cc) 400).1 _ _ _ _ (by kernel_rfl),AJJ⟩
def T20:List Ent:=⟨48,[.lst 9 .sh [.str [0,0,0,0,0],.str [1,1,0,0,0]],.int .i64 1],[],(.tup [AI8,.int .i64 0],[])⟩::T19
theorem AJL:∀e∈T20,e.ok:=List.forall_mem_cons.2 ⟨(BI (Ce AJK Cc) 400).1 _ _ _ _ (by kernel_rfl),AJK⟩
def T21:List Ent:=⟨17,[.ref 3 [] 68,.int .i64 1],[ER,ER,Ie,AEY,MX,AAx],(.tup [AQx,.int .i64 0],[ER,ER,Ie,AEY,MX,AAx])⟩::T20
theorem AJM:∀e∈T21,e.ok:=List.forall_mem_cons.2 ⟨(BI (Ce AJL Cc) 400).1 _ _ _ _ (by kernel_rfl),AJL⟩
def T22:List Ent:=⟨18,[MX,.int .i64 2,.int .i64 1,.str [1,1,1,0,0],AI7],[],(.bool true,[])⟩::T21
theorem AJN:∀e∈T22,e.ok:=List.forall_mem_cons.2 ⟨(BI (Ce AJM Cc) 400).1 _ _ _ _ (by kernel_rfl),AJM⟩
def T23:List Ent:=⟨13,[.ref 3 [] 68],[ER,ER,Ie,AEY,MX,AAx,.row 0 []],(AMa,[ER,ER,Ie,AEY,MX,AAx,.row 0 []])⟩::T22
theorem AJO:∀e∈T23,e.ok:=List.forall_mem_cons.2 ⟨(BI (Ce AJN Cc) 400).1 _ _ _ _ (by kernel_rfl),AJN⟩
def T24:List Ent:=⟨18,[AMa,.int .i64 2,.int .i64 1,.str [1,1,0,0,0],AI8],[],(.bool true,[])⟩::T23
theorem AJP:∀e∈T24,e.ok:=List.forall_mem_cons.2 ⟨(BI (Ce AJO Cc) 400).1 _ _ _ _ (by kernel_rfl),AJO⟩
def T25:List Ent:=⟨8,[.ref 3 [] 68],AJA,(.str [83,1,2,5,0,0,0,0,0,5,1,1,0,0,0],AJA)⟩::T24
theorem AJQ:∀e∈T25,e.ok:=List.forall_mem_cons.2 ⟨(BI (Ce AJP Cc) 400).1 _ _ _ _ (by kernel_rfl),AJP⟩
def T26:List Ent:=⟨9,[.ref 3 [] 68,.str [83,1,2,5,0,0,0,0,0,5,1,1,0,0,0]],AJA,(.int .i64 0,[ER,ER,Ie,.agg 67 [ER,Ie,.int .i64 1,.int .i64 0,.int .i64 1,.lst 70 .nil [],.lst 70 .own AEX,.bool false],MX,AAx,AQx])⟩::T25
theorem AQy:∀e∈T26,e.ok:=List.forall_mem_cons.2 ⟨(BI (Ce AJQ Cc) 400).1 _ _ _ _ (by kernel_rfl),AJQ⟩
theorem AMb:Cl 4 [] []=some (.bool true,[]):=(BI (Ce AQy Cc) 400).1 _ _ _ _ (by kernel_rfl)
end
section
open Go AM
def SA (g:Grf) (j:Job) (n w:Int):Bool:=Dz g j&&(decide (1≤n)&&(decide (n≤64)&&(decide (0≤w)&&decide (w<n))))
theorem ZQ {g:Grf} (hl:g.es.length<1000000) (j:Job) (n w:Int):Cl 5 [vG .sh g,vJ j,.int .i64 n,.int .i64 w] []=some (.bool (SA g j n w),[]):=by
 have hg:=AAv hl j
 rw[SA,AR7]
 generalize Dz g j=b at*
 repeat' first|rfl|refine AAl (fun _=> ?_) (fun _=> ?_)|refine AAm (fun _=> ?_) (fun _=> ?_)|simp(disch:=first|assumption|omega|(with_reducible rfl)|(simp only[go_sem];done)|(simp only[go_sem];omega)|fail) only[↓reduceIte,↓AO,Nat.reduceAdd,go_sem,hg]
 all_goals simp_all
 all_goals omega
end
section
open Go AM
abbrev OD (f:Fl) (ins:List (List Msg)):V:= .lst 36 f (ins.map (BZ .sh))
theorem AJR {k:Wkr} (hk:WkOk k) {at_:Int} (ha: -1000≤at_∧at_≤1000) (ms:List Msg):WkOk (ZM k at_ ms):=by
 obtain⟨d1,_,_,d4⟩:=OC hk at_ ms
 exact⟨hk.job,hk.n1,hk.n64,hk.w,⟨by show(-9223372036854775808:Int)≤at_+1;omega,by show at_+1<(9223372036854775808:Int);omega⟩,d4,d1⟩
theorem cpM {l:List Msg} (hl:l.length≤1000000) (h:List V):FU 103 (tyG 102) false h (.lst 103 .own []) (BZ .sh l).weak=some (.lst 103 .own (l.map Ac)):=by
 show FU _ _ _ _ _ (.lst 103 .sh (l.map Ac))=_
 rw[Bj (F6 l) (all_map (fun _=>rfl) l) (by simp;omega),List.nil_append]
 rfl
def Om (k:Wkr) (at_:Int) (ms:List Msg):(Int×List UInt8×List (List UInt8))×Wkr:=
 if at_=k.step∧at_<k.j.steps then(if JI k at_ ms=0 then((0,doC k at_ ms,(EN k at_ ms).map fun l=>(Ci l).1),ZM k at_ ms)else((JI k at_ ms,[],[]),k))else((131,[],[]),k)
theorem AAz {k:Wkr} (hk:WkOk k) {at_:Int} (ha: -1000≤at_∧at_≤1000) (ms:List Msg):WkOk (Om k at_ ms).2∧(Om k at_ ms).1.2.2.length≤1000:=by
 have:=(I4 hk at_ ms).2
 unfold Om
 split
 ·split
  ·exact⟨AJR hk ha ms,by simpa using this⟩
  ·exact⟨hk,by simp⟩
 ·exact⟨hk,by simp⟩
abbrev vRV (q:Int×List UInt8×List (List UInt8)):V:=JF q.1 q.2.1 .sh q.2.2
def IL (f:Fl):Prop:=f= .own∨f= .nil∨f= .sh
def wp (k:Wkr) (p:List Vtx) (o:Bool):Wkr:=⟨k.g,k.j,k.N,k.w,k.step,p,k.now,o⟩
theorem AJS {k:Wkr} {p:List Vtx} {o:Bool} (hk:WkOk k):WkOk (wp k p o):=⟨hk.job,hk.n1,hk.n64,hk.w,hk.st,hk.now,hk.len⟩
theorem XM (k:Wkr) (p:List Vtx) (o:Bool) (at_:Int) (ms:List Msg):(Om (wp k p o) at_ ms).1=(Om k at_ ms).1:=by
 unfold Om
 show(if at_=k.step∧at_<k.j.steps then(if JI k at_ ms=0 then((0,doC k at_ ms,(EN k at_ ms).map fun l=>(Ci l).1),ZM k at_ ms)else((JI k at_ ms,[],[]),wp k p o))else((131,[],[]),wp k p o)).1=_
 split
 ·split<;>rfl
 ·rfl
theorem XO (k:Wkr) (p:List Vtx) (o:Bool) (at_:Int) (ms:List Msg):∃p' o',(Om (wp k p o) at_ ms).2=wp (Om k at_ ms).2 p' o':=by
 unfold Om
 show ∃p' o',(if at_=k.step∧at_<k.j.steps then(if JI k at_ ms=0 then((0,doC k at_ ms,(EN k at_ ms).map fun l=>(Ci l).1),ZM k at_ ms)else((JI k at_ ms,[],[]),wp k p o))else((131,[],[]),wp k p o)).2=_
 split
 ·split
  ·exact⟨k.now,true,rfl⟩
  ·exact⟨p,o,rfl⟩
 ·exact⟨p,o,rfl⟩
def Z7 (g:Grf) (j:Job) (N w:Nat):Wkr:=⟨g,j,N,w,0,[],O7 g j N w,false⟩
theorem AQz {g:Grf} {j:Job} (hj:Dz g j=true) {N w:Nat} (h1:1≤N) (hN:N≤64) (hw:w<N):WkOk (Z7 g j N w):=by
 have hg':=KI hj
 have:=AIc g j N w
 exact⟨hj,h1,hN,hw,by simp[Z7,I64],AML hg'.2 j N w,by show(O7 g j N w).length≤64;omega⟩
structure KOk (g:Grf) (j:Job) (N w:Nat) (k:Wkr):Prop where
 ok:WkOk k
 eg:k.g=g
 ej:k.j=j
 eN:k.N=N
 ew:k.w=w
 s0:0≤k.step
 s2:k.step≤j.steps
 s1:k.step≤64
 st64:j.steps≤64
 ids:k.now.map (·.id)=(O7 g j N w).map (·.id)
 x:∀x∈k.now,(0≤x.id∧x.id<64)∧Em x=true∧x.has=false
theorem KOk.job {g:Grf} {j:Job} {N w:Nat} {k:Wkr} (h:KOk g j N w k):Dz g j=true:=by have:=h.ok.job;rwa [h.eg,h.ej]at this
theorem KOk.n1 {g:Grf} {j:Job} {N w:Nat} {k:Wkr} (h:KOk g j N w k):1≤N:=by have:=h.ok.n1;rwa [h.eN]at this
theorem KOk.n64 {g:Grf} {j:Job} {N w:Nat} {k:Wkr} (h:KOk g j N w k):N≤64:=by have:=h.ok.n64;rwa [h.eN]at this
theorem KOk.w {g:Grf} {j:Job} {N w:Nat} {k:Wkr} (h:KOk g j N w k):w<N:=by have:=h.ok.w;rwa [h.eN,h.ew]at this
theorem KOk.wp {g:Grf} {j:Job} {N w:Nat} {k:Wkr} (h:KOk g j N w k):(⟨g,j,N,w,k.step,[],k.now,false⟩:Wkr)=wp k [] false:=by
 obtain rfl:=h.eg;obtain rfl:=h.ej;obtain rfl:=h.eN;obtain rfl:=h.ew;rfl
theorem AEZ {t:List UInt8} {l:List Msg} {v:Int} (h:(Es t l v).2.1=false):(Es t l v).1=0:=by
 unfold Es at*
 split at h
 ·rename_i h1;rw[if_pos h1]
 ·rename_i h1
  rw[if_neg h1]
  generalize (DI (l.filter fun m=>decide (m.to=v))).map (·.val)=xs at*
  cases xs with
  |nil=>rfl
  |cons x xs=>
   simp only[Y3]at h⊢
   split at h
   ·exact absurd h (by simp)
   ·rename_i h2;rw[if_neg h2]
theorem ADV {j:Job} {ms:List Msg} {x:Vtx} (hx:GZ x):GZ (BK j ms x).1:=by
 have:=Y6 j.tag ms x.id
 exact⟨hx.1,hx.2.1,by show I64 (Es j.tag ms x.id).1;simp only[I64];omega⟩
theorem AA0 {g:Grf} {j:Job} {N w:Nat} {k:Wkr} (hk:KOk g j N w k) (at_:Int) (ha: -1000≤at_∧at_≤1000) (ms:List Msg):KOk g j N w (Om k at_ ms).2:=by
 unfold Om
 split
 ·rename_i h1
  split
  ·rename_i h2
   have hb:(FT k at_ ms).2=0:=by
    unfold JI at h2;by_cases h:(FT k at_ ms).2=0
    ·exact h
    ·rw[if_neg h]at h2;exact h2
   have hd:(DF k at_ ms).2.2=0:=by unfold JI at h2;rwa [if_pos hb]at h2
   have eb:(FT k at_ ms).1=k.now.map fun x=>(BK k.j ms x).1:=ADR hb
   obtain⟨ed,ee⟩:=ADS hd
   have en:(ZM k at_ ms).now=k.now.map fun x=>(AV k.g k.j at_ (BK k.j ms x).1).1:=by
    show(DF k at_ ms).1=_
    unfold DF;rw[ed,eb,List.map_map];rfl
   have one:∀x∈k.now,(AV k.g k.j at_ (BK k.j ms x).1).2.2=0:=fun x hx=>ee _ (by rw[eb];exact List.mem_map.2 ⟨x,hx,rfl⟩)
   have sid:∀x∈k.now,(AV k.g k.j at_ (BK k.j ms x).1).1.id=x.id∧(AV k.g k.j at_ (BK k.j ms x).1).1.has=false:=fun x hx=>
    (Eb hk.ok.job at_ (ADV (hk.ok.now x hx))).2.2.1 (one x hx)
   have e1:=h1.1;have e2:=h1.2;have e3:=hk.ej;have e4:=hk.s0;have e5:=hk.st64
   have e6:at_<j.steps:=by rw[←e3];exact e2
   refine⟨AJR hk.ok ha ms,hk.eg,hk.ej,hk.eN,hk.ew,by show 0≤at_+1;omega,by show at_+1≤j.steps;omega,by show at_+1≤64;omega,e5,?_,?_⟩
   ·rw[en,←hk.ids,List.map_map]
    exact List.map_congr_left fun x hx=>(sid x hx).1
   ·rw[en]
    intro y hy
    obtain⟨x,hx,rfl⟩:=List.mem_map.1 hy
    obtain⟨xi,xc,xh⟩:=hk.x x hx
    refine⟨by rw[(sid x hx).1];exact xi,?_,(sid x hx).2⟩
    exact AEN hk.ok.job at_ (ADV (hk.ok.now x hx)) (one x hx) xi.1 xi.2 fun h=>AEZ h
  ·exact hk
 ·exact hk
theorem AA1 {j:Job} (hk:Fb j.tag=true) {v:Nat} (hv:v<64):((0≤(firstX j (v:Int)).id∧(firstX j (v:Int)).id<64)∧Em (firstX j (v:Int))=true∧(firstX j (v:Int)).has=false):=by
 have h1: -1125899906842624≤(37*(v:Int)+11).tmod 64∧(37*(v:Int)+11).tmod 64<1125899906842624:=by
  rw[Int.tmod_eq_emod_of_nonneg (by omega)];omega
 have hval:Bz (firstX j (v:Int)).val=false:=by
  simp only[firstX,hk,if_true]
  simp only[Bz,Bool.or_eq_false_iff,decide_eq_false_iff_not]
  repeat' split
  all_goals omega
 have hid:=AEU hk (v:Int)
 have hhas:(firstX j (v:Int)).has=false:=by simp only[firstX,hk,if_true]
 have hin:(firstX j (v:Int)).inn=0:=by simp only[firstX,hk,if_true]
 refine⟨by rw[hid];omega,?_,hhas⟩
 unfold Em
 rw[hid,hval,hhas,hin]
 have a1:decide ((v:Int)<0)=false:=decide_eq_false (by omega)
 have a2:decide (64≤(v:Int))=false:=decide_eq_false (by omega)
 rw[a1,a2];rfl
theorem AVw {g:Grf} {j:Job} (hj:Dz g j=true) {N w:Nat} (h1:1≤N) (hN:N≤64) (hw:w<N):KOk g j N w (Z7 g j N w):=by
 have hg':=KI hj
 have hj':=hj
 simp only[Dz,decide_eq_true_eq]at hj'
 refine⟨AQz hj h1 hN hw,rfl,rfl,rfl,rfl,by show(0:Int)≤0;omega,by show(0:Int)≤j.steps;omega,by show(0:Int)≤64;omega,hj'.2.2.2.2.2,rfl,fun x hx=> ?_⟩
 obtain⟨v,hv,rfl⟩:=List.mem_map.1 hx
 have:=Rw hv
 exact AA1 hj'.2.1 (by omega)
theorem ATs (a:Nat):AL .rem (.int .i64 (a:Int)) (.int .i64 8)=some (.int .i64 ((a%8:Nat):Int)):=AK5 (a:=a) (b:=8) (by omega) .i64
theorem U1 {h:List V} {id:Nat} {fp fn:Fl} {k:Wkr} (hk:h[id]?=some (Dq fp fn k)) (hfn:fn= .own∨fn= .nil∨fn= .sh) (hn:k.now.length≤64):Cl 15 [.ref id [] 68] h=some (.lst 70 .sh (k.now.map A7),h):=by
 have hR:=AEL (l:=k.now) (by omega)
 have rr:∀H,CT 45 (AB H [(Cb fn k.now).weak])=some (.lst 70 .sh (k.now.map A7),[]):=fun H=>by rcases hfn with rfl|rfl|rfl<;>exact hR
 have ln:CU h 48 (.ref id [6] 48)=some ((Cb fn k.now).weak):=by
  have:=Gy hk (i:=6) (v:=Cb fn k.now) rfl [] 48
  rw[List.append_nil]at this
  simp only[CU,this,Option.map_some]
 have pl:=P5 k.now
 rw[AOW]
 refine Ah (show Ag (.ref id [] 68)=some (.ref id [] 68)from rfl) ?_
 refine Ah (show fA 68 48 6 (.ref id [] 68)=some (.ref id [6] 48)from rfl) ?_
 refine Ah ln ?_
 refine Ah (rr _) ?_
 generalize k.now.map A7=L at*
 have pv:(V.lst 70 .sh L).pl=true:=pl
 simp only[AQ,(V.PF _ pv).unmut,(V.PF _ pv).norm,(V.PF _ pv).clean,(V.PF _ pv).over,Bool.and_self,if_true,take_len]
theorem AVx {a0 a1 a2 a3 a5 a6 a7:V} {fp fn:Fl} {k:Wkr} {at_:Int} {ms:List Msg} (hk:WkOk k) (hfn:IL fn) (hms:ms.length≤1000000) (h3:0≤at_):∃fp' fn':Fl,(IL fp→IL fp')∧IL fn'∧
 Cl 11 [.ref 4 [] 68,.int .i64 at_,BZ .sh ms] [a0,a1,a2,a3,Dq fp fn k,a5,a6,a7]=some (vRV (Om k at_ ms).1,[a0,a1,a2,a3,Dq fp' fn' (Om k at_ ms).2,a5,a6,a7]):=by
 unfold Om
 by_cases h:at_=k.step∧at_<k.j.steps
 ·obtain⟨fd,hfd,d⟩:=AMQ (a0:=a0) (a1:=a1) (a2:=a2) (a3:=a3) (a5:=a5) (a6:=a6) (a7:=a7) (fp:=fp) (at_:=at_) (ms:=ms) hk hfn hms h.1 h.2 h3
  rw[if_pos h]
  by_cases he:JI k at_ ms=0
  ·rw[if_pos he]at d⊢
   exact⟨fn.wk,fd,fun _=>by rcases hfn with rfl|rfl|rfl<;>simp[IL,Fl.wk],by rcases hfd with rfl|rfl<;>simp[IL],d⟩
  ·rw[if_neg he]at d⊢
   exact⟨fp,fn,fun h=>h,hfn,d⟩
 ·rw[if_neg h]
  exact⟨fp,fn,fun h=>h,hfn,AIf .sh (.inl rfl) (by omega)⟩
theorem AVy {a0 a1 a2 a3 a4 a5 a6:V} {fp fn:Fl} {k:Wkr} {at_:Int} {ms:List Msg} (hk:WkOk k) (hfn:IL fn) (hms:ms.length≤1000000) (h3:0≤at_):∃fp' fn':Fl,(IL fp→IL fp')∧IL fn'∧
 Cl 11 [.ref 7 [] 68,.int .i64 at_,BZ .sh ms] [a0,a1,a2,a3,a4,a5,a6,Dq fp fn k]=some (vRV (Om k at_ ms).1,[a0,a1,a2,a3,a4,a5,a6,Dq fp' fn' (Om k at_ ms).2]):=by
 unfold Om
 by_cases h:at_=k.step∧at_<k.j.steps
 ·obtain⟨fd,hfd,d⟩:=AMU (a0:=a0) (a1:=a1) (a2:=a2) (a3:=a3) (a4:=a4) (a5:=a5) (a6:=a6) (fp:=fp) (at_:=at_) (ms:=ms) hk hfn hms h.1 h.2 h3
  rw[if_pos h]
  by_cases he:JI k at_ ms=0
  ·rw[if_pos he]at d⊢
   exact⟨fn.wk,fd,fun _=>by rcases hfn with rfl|rfl|rfl<;>simp[IL,Fl.wk],by rcases hfd with rfl|rfl<;>simp[IL],d⟩
  ·rw[if_neg he]at d⊢
   exact⟨fp,fn,fun h=>h,hfn,d⟩
 ·rw[if_neg h]
  exact⟨fp,fn,fun h=>h,hfn,AIi .sh (.inl rfl) (by omega)⟩
theorem AN6 {a0 a1 a2 a3 a5 a6 a7 a8 a9 a10:V} {fp fn:Fl} {k:Wkr} {at_:Int} {ms:List Msg} (hk:WkOk k) (hfn:IL fn) (hms:ms.length≤1000000) (h3:0≤at_):∃fp' fn':Fl,(IL fp→IL fp')∧IL fn'∧
 Cl 11 [.ref 4 [] 68,.int .i64 at_,BZ .sh ms] [a0,a1,a2,a3,Dq fp fn k,a5,a6,a7,a8,a9,a10]=some (vRV (Om k at_ ms).1,[a0,a1,a2,a3,Dq fp' fn' (Om k at_ ms).2,a5,a6,a7,a8,a9,a10]):=by
 unfold Om
 by_cases h:at_=k.step∧at_<k.j.steps
 ·obtain⟨fd,hfd,d⟩:=AIo (a0:=a0) (a1:=a1) (a2:=a2) (a3:=a3) (a5:=a5) (a6:=a6) (a7:=a7) (a8:=a8) (a9:=a9) (a10:=a10) (fp:=fp) (at_:=at_) (ms:=ms) hk hfn hms h.1 h.2 h3
  rw[if_pos h]
  by_cases he:JI k at_ ms=0
  ·rw[if_pos he]at d⊢
   exact⟨fn.wk,fd,fun _=>by rcases hfn with rfl|rfl|rfl<;>simp[IL,Fl.wk],by rcases hfd with rfl|rfl<;>simp[IL],d⟩
  ·rw[if_neg he]at d⊢
   exact⟨fp,fn,fun h=>h,hfn,d⟩
 ·rw[if_neg h]
  exact⟨fp,fn,fun h=>h,hfn,AEQ .sh (.inl rfl) (by omega)⟩
theorem AN7 {a0 a1 a2 a3 a4 a5 a6 a7 a8 a9:V} {fp fn:Fl} {k:Wkr} {at_:Int} {ms:List Msg} (hk:WkOk k) (hfn:IL fn) (hms:ms.length≤1000000) (h3:0≤at_):∃fp' fn':Fl,(IL fp→IL fp')∧IL fn'∧
 Cl 11 [.ref 10 [] 68,.int .i64 at_,BZ .sh ms] [a0,a1,a2,a3,a4,a5,a6,a7,a8,a9,Dq fp fn k]=some (vRV (Om k at_ ms).1,[a0,a1,a2,a3,a4,a5,a6,a7,a8,a9,Dq fp' fn' (Om k at_ ms).2]):=by
 unfold Om
 by_cases h:at_=k.step∧at_<k.j.steps
 ·obtain⟨fd,hfd,d⟩:=AIu (a0:=a0) (a1:=a1) (a2:=a2) (a3:=a3) (a4:=a4) (a5:=a5) (a6:=a6) (a7:=a7) (a8:=a8) (a9:=a9) (fp:=fp) (at_:=at_) (ms:=ms) hk hfn hms h.1 h.2 h3
  rw[if_pos h]
  by_cases he:JI k at_ ms=0
  ·rw[if_pos he]at d⊢
   exact⟨fn.wk,fd,fun _=>by rcases hfn with rfl|rfl|rfl<;>simp[IL,Fl.wk],by rcases hfd with rfl|rfl<;>simp[IL],d⟩
  ·rw[if_neg he]at d⊢
   exact⟨fp,fn,fun h=>h,hfn,d⟩
 ·rw[if_neg h]
  exact⟨fp,fn,fun h=>h,hfn,AET .sh (.inl rfl) (by omega)⟩
def AN8 (t2 t3 t4 t5 t6 t7 t13 t18 t15:V) (h:List V):Rv:=jn (fun t154 h29=>
 V.ite t154 (AQ 0 h29 (V.bool false))
  ((Cl 8 (AP [t15]) h29).bind fun r30=>(AL .add t18 (V.int .i64 1)).bind fun t87=>Oa t2 t3 t4 t5 t6 t7 t13 t15 r30.1 t87 r30.2)) (fun(k32:V→List V→Rv)=>(NU 103 false (ck [] [])).bind fun t123=>(D9 36 (V.weak t4) t18).bind fun t126=>(CU h 36 t126).bind fun t127=>(FU 103 (tyG 102) false h t123 t127).bind fun t128=>(Cl 11 (AP [t13,t18,t128]) h).bind fun r37=>(NU 103 false (ck [] [])).bind fun t132=>(D9 36 (V.weak t4) t18).bind fun t135=>if LQ true [t135]=true then(CU r37.2 36 t135).bind fun t136=>(FU 103 (tyG 102) false r37.2 t132 t136).bind fun t137=>(Cl 11 (AP [t15,t18,t137]) r37.2).bind fun r42=>(Cl 10 (AB r42.2 [r37.1,r42.1]) []).bind fun r43=>(un .not r43.1).bind fun t140=>V.ite t140 (k32 (V.bool true) r42.2) ((Cl 12 (AP [t13]) r42.2).bind fun r45=>(Cl 12 (AP [t15]) r45.2).bind fun r46=>(AL .neq r45.1 r46.1).bind fun t146=>V.ite t146 (k32 (V.bool true) r46.2) ((Cl 13 (AP [t13]) r46.2).bind fun r48=>(Cl 13 (AP [t15]) r48.2).bind fun r49=>(Tm (tyG 44) .neq r48.1 r49.1).bind fun t153=>k32 t153 r49.2))else none)
theorem XP {g:Grf} {j:Job} {N w a i idb:Nat} {ins:List (List Msg)} (h:i<ins.length) (hI:ins.length≤8) (h20:¬20<(ins[i]).length) {fa na fb nb:Fl} {k:Wkr} {p:List Vtx} {o:Bool} {H H1 H2:List V} {q:Int×List UInt8×List (List UInt8)}
 (da:Cl 11 [.ref 4 [] 68,.int .i64 (i:Int),BZ .sh ins[i]] H=some (vRV q,H1)) (db:Cl 11 [.ref idb [] 68,.int .i64 (i:Int),BZ .sh ins[i]] H1=some (vRV q,H2))
 (g4:H2[4]?=some (Dq fa na k)) (gb:H2[idb]?=some (Dq fb nb (wp k p o))) (hk:KOk g j N w k) (hfa:IL na) (hfb:IL nb) (k2:q.2.2.length≤1000)
 (nx:Oa (.int .i64 (N:Int)) (.int .i64 (w:Int)) (OD .sh ins) (.int .u8 (a:Int)) (.ref 0 [] 24) (.ref 1 [] 26) (.ref 4 [] 68) (.ref idb [] 68) (.str (Ic k)) (.int .i64 ((i+1:Nat):Int)) H2=some (.bool true,[])):
 AN8 (.int .i64 (N:Int)) (.int .i64 (w:Int)) (OD .sh ins) (.int .u8 (a:Int)) (.ref 0 [] 24) (.ref 1 [] 26) (.ref 4 [] 68) (.int .i64 (i:Int)) (.ref idb [] 68) H=some (.bool true,[]):=by
 have s1000:k.step≤1000:=Int.le_trans hk.s1 (by omega)
 have ix:D9 36 (V.weak (OD .sh ins)) (.int .i64 (i:Int))=some (.rop 36 (BZ .sh ins[i])):=by
  show D9 _ (.lst _ .sh _) _=_
  rw[DL,List.getElem?_map,List.getElem?_eq_getElem h];rfl
 have ad:AL .add (.int .i64 (i:Int)) (.int .i64 1)=some (.int .i64 ((i+1:Nat):Int)):=by rw[Bq,wrap_i64 (by omega) (by omega)];rfl
 have ld:∀H,CU H 36 (.rop 36 (BZ .sh ins[i]))=some (BZ .sh ins[i]).weak:=fun H=>by simp only[CU,EK,Option.map_some]
 have cp:=cpM (l:=ins[i]) (by omega)
 have bs:NU 103 false (ck [] [])=some (.lst 103 .own []):=rfl
 have sr:=AIw q.1 q.2.1 k2
 have sa:=ZN g4
 have sb:=ZN gb
 have ra:=ZO g4 hfa hk.ok.now hk.ok.len
 have rb_:=ZO gb hfb hk.ok.now hk.ok.len
 have sv:=XL gb hfb hk.s0 s1000 hk.ok.now hk.ok.len
 have ns:AL .neq (.int .i64 k.step) (.int .i64 k.step)=some (.bool false):=by rw[b_neq];simp
 have nq:Tm (tyG 44) .neq (Bh (vrootB k.now)) (Bh (vrootB k.now))=some (.bool false):=by rw[neA (Gf _) (Gf _)];simp
 have nt:un .not (.bool true)=some (.bool false):=rfl
 unfold AN8
 refine FV ?_
 refine Ah bs ?_
 refine Ah ix ?_
 refine Ah (ld _) ?_
 refine Ah (cp _) ?_
 refine Ah (show Cl _ (AP [_,_,.lst 103 .own ((ins[i]).map Ac)]) _=_ from da) ?_
 refine Ah bs ?_
 refine Ah ix ?_
 refine(if_pos (show LQ true [.rop 36 (BZ .sh ins[i])]=true from rfl)).trans ?_
 refine Ah (ld _) ?_
 refine Ah (cp _) ?_
 refine Ah (show Cl _ (AP [_,_,.lst 103 .own ((ins[i]).map Ac)]) _=_ from db) ?_
 refine Ah (show Cl _ (AB _ [vRV q,vRV q]) []=_ from sr) ?_
 refine Ah nt ?_
 refine BP ?_
 refine Ah (show Cl _ (AP [.ref 4 [] _]) _=_ from sa) ?_
 refine Ah (show Cl _ (AP [.ref idb [] _]) _=_ from sb) ?_
 refine Ah ns ?_
 refine BP ?_
 refine Ah (show Cl _ (AP [.ref 4 [] _]) _=_ from ra) ?_
 refine Ah (show Cl _ (AP [.ref idb [] _]) _=_ from rb_) ?_
 refine Ah nq ?_
 refine BP ?_
 refine Ah (show Cl _ (AP [.ref idb [] _]) _=_ from sv) ?_
 exact Ah ad nx
theorem ADW {g:Grf} {j:Job} {N w a idb:Nat} {ins:List (List Msg)} {fa na fb nb:Fl} {k:Wkr} {p:List Vtx} {o:Bool} {H:List V} (g4:H[4]?=some (Dq fa na k)) (gb:H[idb]?=some (Dq fb nb (wp k p o))) (hk:KOk g j N w k) (hfa:IL na) (hfb:IL nb):
 Oa (.int .i64 (N:Int)) (.int .i64 (w:Int)) (OD .sh ins) (.int .u8 (a:Int)) (.ref 0 [] 24) (.ref 1 [] 26) (.ref 4 [] 68) (.ref idb [] 68) (.str (Ic k)) (.int .i64 (ins.length:Int)) H=some (.bool true,[]):=by
 have s1000:k.step≤1000:=Int.le_trans hk.s1 (by omega)
 have ls:AL .lss (.int .i64 (ins.length:Int)) (.int .i64 (ins.length:Int))=some (.bool false):=by rw[b_lss,decide_eq_false (by omega)]
 have lL:EJ (V.weak (OD .sh ins))=some (.int .i64 (ins.length:Int)):=by show some _=_;rw[List.length_map]
 have sv:=XL g4 hfa hk.s0 s1000 hk.ok.now hk.ok.len
 have va:=U1 g4 hfa hk.ok.len
 have vb:=U1 gb hfb hk.ok.len
 have se:AL .eql (.str (Ic k)) (.str (Ic k))=some (.bool true):=by simp[AL]
 have sx:=AEW (l:=k.now) (by have:=hk.ok.len;omega)
 rw[QR]
 refine Ah lL ?_
 refine Ah ls ?_
 refine BP ?_
 refine FV ?_
 refine Ah (show Cl _ (AP [.ref 4 [] _]) _=_ from sv) ?_
 refine Ah se ?_
 refine Be ?_
 refine Ah (show Cl _ (AP [.ref 4 [] _]) _=_ from va) ?_
 refine Ah (show Cl _ (AP [.ref idb [] _]) _=_ from vb) ?_
 refine Ah (show Cl _ (AB _ [.lst 70 .sh (k.now.map A7),.lst 70 .sh (k.now.map A7)]) []=_ from sx) ?_
 rfl
theorem AEa {g:Grf} {j:Job} {N w a:Nat} {ins:List (List Msg)} (hl:g.es.length<1000000) (hg:g.n≤64) (ha:a<256) (hI:ins.length≤8) (X:V):∀(m i:Nat) (fpa fna fpb fnb:Fl) (k:Wkr) (p:List Vtx) (o:Bool),i+m=ins.length→KOk g j N w k→IL fna→IL fnb→a%8<i→
 Oa (.int .i64 (N:Int)) (.int .i64 (w:Int)) (OD .sh ins) (.int .u8 (a:Int)) (.ref 0 [] 24) (.ref 1 [] 26) (.ref 4 [] 68) (.ref 10 [] 68) (.str (Ic k)) (.int .i64 (i:Int)) [vG .sh g,vJ j,vG .sh g,vJ j,Dq fpa fna k,vG .sh g,vJ j,X,vG .sh g,vJ j,Dq fpb fnb (wp k p o)]=some (.bool true,[]):=by
 intro m
 induction m with
 |zero=>
  intro i fpa fna fpb fnb k p o hi hk hfa hfb hai
  obtain rfl:i=ins.length:=by omega
  exact ADW rfl rfl hk hfa hfb
 |succ m ih=>
  intro i fpa fna fpb fnb k p o hi hk hfa hfb hai
  have s64:=hk.s1
  have h:i<ins.length:=by omega
  have ls:AL .lss (.int .i64 (i:Int)) (.int .i64 (ins.length:Int))=some (.bool true):=by rw[b_lss,decide_eq_true (by omega)]
  have lL:EJ (V.weak (OD .sh ins))=some (.int .i64 (ins.length:Int)):=by show some _=_;rw[List.length_map]
  have ix:D9 36 (V.weak (OD .sh ins)) (.int .i64 (i:Int))=some (.rop 36 (BZ .sh ins[i])):=by
   show D9 _ (.lst _ .sh _) _=_
   rw[DL,List.getElem?_map,List.getElem?_eq_getElem h];rfl
  have ld:∀H,CU H 36 (.rop 36 (BZ .sh ins[i]))=some (BZ .sh ins[i]).weak:=fun H=>by simp only[CU,EK,Option.map_some]
  have l3:EJ (BZ .sh ins[i]).weak=some (.int .i64 ((ins[i]).length:Int)):=by show some _=_;rw[List.length_map]
  rw[QR]
  refine Ah lL ?_
  refine Ah ls ?_
  refine Be ?_
  refine Ah ix ?_
  refine Ah (ld _) ?_
  refine Ah l3 ?_
  by_cases h20:20<(ins[i]).length
  ·have g3:AL .gtr (.int .i64 ((ins[i]).length:Int)) (.int .i64 20)=some (.bool true):=by rw[b_gtr,decide_eq_true (by omega)]
   refine Ah g3 ?_
   refine Be ?_
   rfl
  have g3:AL .gtr (.int .i64 ((ins[i]).length:Int)) (.int .i64 20)=some (.bool false):=by rw[b_gtr,decide_eq_false (by omega)]
  refine Ah g3 ?_
  refine BP ?_
  have cv:Kr .i64 (.int .u8 (a:Int))=some (.int .i64 (a:Int)):=cvI_i64 (by omega) (by omega)
  have rm:AL .rem (.int .i64 (a:Int)) (.int .i64 8)=some (.int .i64 ((a%8:Nat):Int)):=ATs a
  refine Ah cv ?_
  refine Ah rm ?_
  have e8:AL .eql (.int .i64 (i:Int)) (.int .i64 ((a%8:Nat):Int))=some (.bool false):=by rw[b_eql,decide_eq_false (by omega)]
  refine Ah e8 ?_
  refine FV ?_
  refine BP ?_
  obtain⟨fpa',fna',hpa',hfa',da⟩:=AN6 (at_:=(i:Int)) (ms:=ins[i]) hk.ok hfa (by omega) (by omega)
  obtain⟨fpb',fnb',hpb',hfb',db⟩:=AN7 (at_:=(i:Int)) (ms:=ins[i]) (AJS hk.ok) hfb (by omega) (by omega)
  obtain⟨p',o',ew⟩:=XO k p o (i:Int) ins[i]
  rw[XM,ew]at db
  have hk1:=AA0 hk (i:Int) (by omega) ins[i]
  have nx:=ih (i+1) fpa' fna' fpb' fnb' (Om k (i:Int) ins[i]).2 p' o' (by omega) hk1 hfa' hfb' (by omega)
  exact XP h hI h20 da db rfl rfl hk1 hfa' hfb' (AAz hk.ok (at_:=(i:Int)) (by omega) ins[i]).2 nx
theorem AJT {g:Grf} {j:Job} {N w a:Nat} {ins:List (List Msg)} (hl:g.es.length<1000000) (hg:g.n≤64) (ha:a<256) (hI:ins.length≤8):∀(m i:Nat) (fpa fna fpb fnb:Fl) (k:Wkr) (p:List Vtx) (o:Bool),i+m=ins.length→KOk g j N w k→IL fna→IL fnb→IL fpa→IL fpb→
 Oa (.int .i64 (N:Int)) (.int .i64 (w:Int)) (OD .sh ins) (.int .u8 (a:Int)) (.ref 0 [] 24) (.ref 1 [] 26) (.ref 4 [] 68) (.ref 7 [] 68) (.str (Ic k)) (.int .i64 (i:Int)) [vG .sh g,vJ j,vG .sh g,vJ j,Dq fpa fna k,vG .sh g,vJ j,Dq fpb fnb (wp k p o)]=some (.bool true,[]):=by
 intro m
 induction m with
 |zero=>
  intro i fpa fna fpb fnb k p o hi hk hfa hfb hpa hpb
  obtain rfl:i=ins.length:=by omega
  exact ADW rfl rfl hk hfa hfb
 |succ m ih=>
  intro i fpa fna fpb fnb k p o hi hk hfa hfb hpa hpb
  have s64:=hk.s1
  have h:i<ins.length:=by omega
  have ls:AL .lss (.int .i64 (i:Int)) (.int .i64 (ins.length:Int))=some (.bool true):=by rw[b_lss,decide_eq_true (by omega)]
  have lL:EJ (V.weak (OD .sh ins))=some (.int .i64 (ins.length:Int)):=by show some _=_;rw[List.length_map]
  have ix:D9 36 (V.weak (OD .sh ins)) (.int .i64 (i:Int))=some (.rop 36 (BZ .sh ins[i])):=by
   show D9 _ (.lst _ .sh _) _=_
   rw[DL,List.getElem?_map,List.getElem?_eq_getElem h];rfl
  have ld:∀H,CU H 36 (.rop 36 (BZ .sh ins[i]))=some (BZ .sh ins[i]).weak:=fun H=>by simp only[CU,EK,Option.map_some]
  have l3:EJ (BZ .sh ins[i]).weak=some (.int .i64 ((ins[i]).length:Int)):=by show some _=_;rw[List.length_map]
  rw[QR]
  refine Ah lL ?_
  refine Ah ls ?_
  refine Be ?_
  refine Ah ix ?_
  refine Ah (ld _) ?_
  refine Ah l3 ?_
  by_cases h20:20<(ins[i]).length
  ·have g3:AL .gtr (.int .i64 ((ins[i]).length:Int)) (.int .i64 20)=some (.bool true):=by rw[b_gtr,decide_eq_true (by omega)]
   refine Ah g3 ?_
   refine Be ?_
   rfl
  have g3:AL .gtr (.int .i64 ((ins[i]).length:Int)) (.int .i64 20)=some (.bool false):=by rw[b_gtr,decide_eq_false (by omega)]
  refine Ah g3 ?_
  refine BP ?_
  have cv:Kr .i64 (.int .u8 (a:Int))=some (.int .i64 (a:Int)):=cvI_i64 (by omega) (by omega)
  have rm:AL .rem (.int .i64 (a:Int)) (.int .i64 8)=some (.int .i64 ((a%8:Nat):Int)):=ATs a
  refine Ah cv ?_
  refine Ah rm ?_
  by_cases hq:i=a%8
  ·have e8:AL .eql (.int .i64 (i:Int)) (.int .i64 ((a%8:Nat):Int))=some (.bool true):=by rw[b_eql,decide_eq_true (by omega)]
   refine Ah e8 ?_
   refine FV ?_
   refine Be ?_
   have pg:(vG .sh g).pl=true:=by simp only[go_sem]
   have wkG:(vG .sh g).weak=vG .sh g:=(V.PF _ pg).weak
   have ow:=ZK hl
   have owH:∀H,Cl 7 (AB H [(vG .sh g).weak]) []=some (vG .sh g,[]):=fun H=>by
    rw[wkG,AB,(V.PF _ pg).reify];exact ow
   have pk:∀(f1 f2:Fl) (q:Wkr),IL f1→IL f2→(Dq f1 f2 q).away 10=true:=fun f1 f2 q h1 h2=>by
    have pg':(vG .sh q.g).pl=true:=by simp only[go_sem]
    simp only[V.away,BM,(V.PF _ pg').away,Bool.true_and,Bool.and_true]
    rcases h1 with rfl|rfl|rfl<;>rcases h2 with rfl|rfl|rfl<;>simp[V.away,BM]
   have pa:BM 10 [vG .sh g,vJ j,vG .sh g,vJ j,Dq fpa fna k,vG .sh g,vJ j,Dq fpb fnb (wp k p o)]=true:=by
    simp only[BM,(V.PF _ pg).away,pk _ _ _ hpa hfa,pk _ _ _ hpb hfb];rfl
   obtain⟨f2,hf2,nw2⟩:=AI3 (a:=vG .sh g) (b:=vJ j) (c:=vG .sh g) (d:=vJ j) (e:=Dq fpa fna k) (b1:=vG .sh g) (b2:=vJ j) (b3:=Dq fpb fnb (wp k p o)) hl hk.job (N:=N) (w:=w) hk.n1 hk.n64 hk.w pa
   have nwH2:Cl 6 (AP [vG .sh g,vJ j,.int .i64 (N:Int),.int .i64 (w:Int)]) [vG .sh g,vJ j,vG .sh g,vJ j,Dq fpa fna k,vG .sh g,vJ j,Dq fpb fnb (wp k p o)]=some (.tup [.ref 10 [] 68,.int .i64 0],[vG .sh g,vJ j,vG .sh g,vJ j,Dq fpa fna k,vG .sh g,vJ j,Dq fpb fnb (wp k p o),vG .sh g,vJ j,Dq .nil f2 (Z7 g j N w)]):=by
    rw[AP,(V.PF _ pg).norm];exact nw2
   obtain⟨f3,hf3,lo⟩:=AMZ (h:=[vG .sh g,vJ j,vG .sh g,vJ j,Dq fpa fna k,vG .sh g,vJ j,Dq fpb fnb (wp k p o),vG .sh g,vJ j,Dq .nil f2 (Z7 g j N w)]) (id:=10) (kc:=Z7 g j N w) (k:=k) rfl (by rcases hf2 with rfl|rfl<;>simp) ⟨hk.s0,by show k.step≤j.steps;exact hk.s2⟩ hk.st64 hk.ok.len hk.ids (fun x hx=>⟨hk.ok.now x hx,(hk.x x hx).2.1,(hk.x x hx).2.2⟩)
   refine AZ (x:=(vG .sh g).weak) rfl ?_
   refine Ah (owH _) ?_
   refine AZ (x:=vJ j) rfl ?_
   refine Ah nwH2 ?_
   refine AZ (x:=V.ref 10 [] 68) rfl ?_
   refine AZ (x:=V.int .i64 0) rfl ?_
   refine FV ?_
   refine Ah (show AL .neq (.int .i64 0) (.int .i64 0)=some (.bool false)from rfl) ?_
   refine BP ?_
   refine Ah (show VN .eql (.ref 10 [] 68)=some (.bool false)from rfl) ?_
   refine BP ?_
   refine Ah (show Cl 9 (AP [.ref 10 [] 68,.str (Ic k)]) _=some (.int .i64 0,[vG .sh g,vJ j,vG .sh g,vJ j,Dq fpa fna k,vG .sh g,vJ j,Dq fpb fnb (wp k p o),vG .sh g,vJ j,Dq .nil f3 ⟨g,j,N,w,k.step,[],k.now,false⟩])from lo) ?_
   refine Ah (show AL .neq (.int .i64 0) (.int .i64 0)=some (.bool false)from rfl) ?_
   refine BP ?_
   rw[show(⟨g,j,N,w,k.step,[],k.now,false⟩:Wkr)=wp k [] false from hk.wp]
   have hfc:IL f3:=by rcases hf3 with rfl|rfl<;>simp[IL]
   generalize Dq fpb fnb (wp k p o)=X
   obtain⟨fpa',fna',hpa',hfa',da⟩:=AN6 (at_:=(i:Int)) (ms:=ins[i]) hk.ok hfa (by omega) (by omega)
   obtain⟨fpb',fnb',hpb',hfb',db⟩:=AN7 (at_:=(i:Int)) (ms:=ins[i]) (AJS hk.ok) hfc (by omega) (by omega)
   obtain⟨p',o',ew⟩:=XO k [] false (i:Int) ins[i]
   rw[XM,ew]at db
   have hk1:=AA0 hk (i:Int) (by omega) ins[i]
   have nx:=AEa hl hg ha hI X m (i+1) fpa' fna' fpb' fnb' (Om k (i:Int) ins[i]).2 p' o' (by omega) hk1 hfa' hfb' (by omega)
   exact XP h hI h20 da db rfl rfl hk1 hfa' hfb' (AAz hk.ok (at_:=(i:Int)) (by omega) ins[i]).2 nx
  have e8:AL .eql (.int .i64 (i:Int)) (.int .i64 ((a%8:Nat):Int))=some (.bool false):=by rw[b_eql,decide_eq_false (by omega)]
  refine Ah e8 ?_
  refine FV ?_
  refine BP ?_
  obtain⟨fpa',fna',hpa',hfa',da⟩:=AVx (at_:=(i:Int)) (ms:=ins[i]) hk.ok hfa (by omega) (by omega)
  obtain⟨fpb',fnb',hpb',hfb',db⟩:=AVy (at_:=(i:Int)) (ms:=ins[i]) (AJS hk.ok) hfb (by omega) (by omega)
  obtain⟨p',o',ew⟩:=XO k p o (i:Int) ins[i]
  rw[XM,ew]at db
  have hk1:=AA0 hk (i:Int) (by omega) ins[i]
  have nx:=ih (i+1) fpa' fna' fpb' fnb' (Om k (i:Int) ins[i]).2 p' o' (by omega) hk1 hfa' hfb' (hpa' hpa) (hpb' hpb)
  exact XP h hI h20 da db rfl rfl hk1 hfa' hfb' (AAz hk.ok (at_:=(i:Int)) (by omega) ins[i]).2 nx
set_option maxHeartbeats 1000000 in
theorem SB (g:Grf) (j:Job) (n w:Int) (ins:List (List Msg)) {a:Nat} (ha8:a<256):Cl 3 [vG .sh g,vJ j,.int .i64 n,.int .i64 w,OD .sh ins,.int .u8 (a:Int)] []=some (.bool true,[]):=by
 have hA:=AMb
 have nt:un .not (.bool true)=some (.bool false):=rfl
 have nf:un .not (.bool false)=some (.bool true):=rfl
 have pg:(vG .sh g).pl=true:=by simp only[go_sem]
 have wkG:(vG .sh g).weak=vG .sh g:=(V.PF _ pg).weak
 have t0:((AM.tyG 23) (vG .sh g)&&V.under 0 (vG .sh g))=true:=by rw[(V.PF _ pg).under];rfl
 have lE:EJ (.lst 52 .sh (g.es.map EX))=some (.int .i64 (g.es.length:Int)):=by show some _=_;rw[List.length_map]
 have lI:EJ (V.weak (OD .sh ins))=some (.int .i64 (ins.length:Int)):=by show some _=_;rw[List.length_map]
 have skip:∀H:List V,(Cl 4 (AB H []) []).bind (fun r=>AQ 0 H r.1)=some (.bool true,[]):=fun H=>AA (show Cl 4 (AB H []) []=_ from hA) _
 rw[AR6,wkG]
 refine Ae t0 ?_
 refine Ae rfl ?_
 refine FV ?_
 refine AZ (show Cl 4 (AB _ []) []=_ from hA) ?_
 refine Ah nt ?_
 refine BP ?_
 iterate 2 refine AZ rfl ?_
 refine Ah lE ?_
 by_cases h1:40<g.es.length
 ·have g1:AL .gtr (.int .i64 (g.es.length:Int)) (.int .i64 40)=some (.bool true):=by rw[b_gtr,decide_eq_true (by omega)]
  refine Ah g1 ?_
  refine Be ?_
  refine Be ?_
  exact skip _
 have g1:AL .gtr (.int .i64 (g.es.length:Int)) (.int .i64 40)=some (.bool false):=by rw[b_gtr,decide_eq_false (by omega)]
 refine Ah g1 ?_
 refine BP ?_
 iterate 2 refine AZ rfl ?_
 by_cases h2:12<g.n
 ·have g2:AL .gtr (.int .i64 g.n) (.int .i64 12)=some (.bool true):=by rw[b_gtr,decide_eq_true (by omega)]
  refine Ah g2 ?_
  refine Be ?_
  refine Be ?_
  exact skip _
 have g2:AL .gtr (.int .i64 g.n) (.int .i64 12)=some (.bool false):=by rw[b_gtr,decide_eq_false (by omega)]
 refine Ah g2 ?_
 refine BP ?_
 refine Ah lI ?_
 by_cases h3:8<ins.length
 ·have g3:AL .gtr (.int .i64 (ins.length:Int)) (.int .i64 8)=some (.bool true):=by rw[b_gtr,decide_eq_true (by omega)]
  refine Ah g3 ?_
  refine Be ?_
  refine Be ?_
  exact skip _
 have g3:AL .gtr (.int .i64 (ins.length:Int)) (.int .i64 8)=some (.bool false):=by rw[b_gtr,decide_eq_false (by omega)]
 refine Ah g3 ?_
 refine BP ?_
 iterate 2 refine AZ rfl ?_
 have hl:g.es.length<1000000:=by omega
 have rt:=ZQ hl j n w
 have rtH:∀H,Cl 5 (AB H [(vG .sh g).weak,vJ j,.int .i64 n,.int .i64 w]) []=some (.bool (SA g j n w),[]):=fun H=>by
  rw[wkG,AB,(V.PF _ pg).reify];exact rt
 refine Ah (rtH _) ?_
 cases hr:SA g j n w with
 |false=>
  refine Ah nf ?_
  refine Be ?_
  exact skip _
 |true=>
 refine Ah nt ?_
 refine BP ?_
 simp only[SA,Bool.and_eq_true,decide_eq_true_eq]at hr
 obtain⟨hj,n1,n2,w0,wn⟩:=hr
 obtain⟨N,rfl⟩:=Int.eq_ofNat_of_zero_le (show 0≤n by omega)
 obtain⟨u,rfl⟩:=Int.eq_ofNat_of_zero_le w0
 have ow:=ZK hl
 have owH:∀H,Cl 7 (AB H [(vG .sh g).weak]) []=some (vG .sh g,[]):=fun H=>by
  rw[wkG,AB,(V.PF _ pg).reify];exact ow
 have ha:BM 4 [vG .sh g,vJ j]=true:=by simp only[BM,(V.PF _ pg).away];rfl
 obtain⟨f',hf',nw⟩:=AIz (a:=vG .sh g) (b:=vJ j) hl hj (N:=N) (w:=u) (by omega) (by omega) (by omega) ha
 have nwH:Cl 6 (AP [vG .sh g,vJ j,.int .i64 (N:Int),.int .i64 (u:Int)]) [vG .sh g,vJ j]=some (.tup [.ref 4 [] 68,.int .i64 0],[vG .sh g,vJ j,vG .sh g,vJ j,Dq .nil f' (Z7 g j N u)]):=by
  rw[AP,(V.PF _ pg).norm];exact nw
 have pa:BM 7 [vG .sh g,vJ j,vG .sh g,vJ j,Dq .nil f' (Z7 g j N u)]=true:=by
  have pk:(Dq .nil f' (Z7 g j N u)).away 7=true:=by
   simp only[V.away,BM,(V.PF _ pg).away,Bool.true_and,Bool.and_true]
   rcases hf' with rfl|rfl<;>simp[V.away,BM]
  simp only[BM,(V.PF _ pg).away,pk];rfl
 obtain⟨f2,hf2,nw2⟩:=AI1 (a:=vG .sh g) (b:=vJ j) (c:=vG .sh g) (d:=vJ j) (e:=Dq .nil f' (Z7 g j N u)) hl hj (N:=N) (w:=u) (by omega) (by omega) (by omega) pa
 have nwH2:Cl 6 (AP [vG .sh g,vJ j,.int .i64 (N:Int),.int .i64 (u:Int)]) [vG .sh g,vJ j,vG .sh g,vJ j,Dq .nil f' (Z7 g j N u)]=some (.tup [.ref 7 [] 68,.int .i64 0],[vG .sh g,vJ j,vG .sh g,vJ j,Dq .nil f' (Z7 g j N u),vG .sh g,vJ j,Dq .nil f2 (Z7 g j N u)]):=by
  rw[AP,(V.PF _ pg).norm];exact nw2
 have hk0:=AVw hj (N:=N) (w:=u) (by omega) (by omega) (by omega)
 have fa:IL f':=by rcases hf' with rfl|rfl<;>simp[IL]
 have fb:IL f2:=by rcases hf2 with rfl|rfl<;>simp[IL]
 have sv:=XL (h:=[vG .sh g,vJ j,vG .sh g,vJ j,Dq .nil f' (Z7 g j N u),vG .sh g,vJ j,Dq .nil f2 (Z7 g j N u)]) (id:=7) rfl fb hk0.s0 (by show(0:Int)≤1000;omega) hk0.ok.now hk0.ok.len
 have lp:=AJT (g:=g) (j:=j) (N:=N) (w:=u) (a:=a) (ins:=ins) hl (KI hj).2 ha8 (by omega) ins.length 0 .nil f' .nil f2 (Z7 g j N u) [] false (by omega) hk0 fa fb (.inr (.inl rfl)) (.inr (.inl rfl))
 refine AZ (x:=(vG .sh g).weak) rfl ?_
 refine Ah (owH _) ?_
 refine AZ (x:=vJ j) rfl ?_
 refine Ah nwH ?_
 refine AZ (x:=V.ref 4 [] 68) rfl ?_
 refine AZ (x:=V.int .i64 0) rfl ?_
 refine AZ (x:=(vG .sh g).weak) rfl ?_
 refine Ah (owH _) ?_
 refine AZ (x:=vJ j) rfl ?_
 refine Ah nwH2 ?_
 refine AZ (x:=V.ref 7 [] 68) rfl ?_
 refine AZ (x:=V.int .i64 0) rfl ?_
 refine FV ?_
 refine Ah (show AL .neq (.int .i64 0) (.int .i64 0)=some (.bool false)from rfl) ?_
 refine BP ?_
 refine Ah (show AL .neq (.int .i64 0) (.int .i64 0)=some (.bool false)from rfl) ?_
 refine BP ?_
 refine Ah (show VN .eql (.ref 4 [] 68)=some (.bool false)from rfl) ?_
 refine BP ?_
 refine Ah (show VN .eql (.ref 7 [] 68)=some (.bool false)from rfl) ?_
 refine BP ?_
 refine Ah (show Cl 8 (AP [.ref 7 [] 68]) _=_ from sv) ?_
 exact lp
end
end Go.Proofs.YtphoocnlpnnkdaaGreatDoor
