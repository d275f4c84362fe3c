/-
  Part of the proof of a statement about the given program: an abstract machine over its code, the simulation, its functions' equations, what they compute.
-/
import Derived.Test.YtiegkempfolgcaaGreatDoorMg20
set_option linter.unusedVariables false
set_option linter.unusedSimpArgs false
set_option linter.unusedSectionVars false
noncomputable section
namespace Go.Proofs.YtiegkempfolgcaaGreatDoor
section
namespace AM
open Go
section
variable {P:Program} {A:Ann} {O:Orc} {g g':G} {w w':World}
theorem Jq:∀{xs:List V} {bs:List Bool},boolsOf xs=some bs→xs=bs.map V.bool
 |[],bs,h=>by simp only[boolsOf,Option.some.injEq]at h;subst h;rfl
 | .bool b::l,bs,h=>by
   simp only[boolsOf,Option.map_eq_some_iff]at h
   obtain⟨l',h,rfl⟩:=h
   rw[Jq h];rfl
 | .int .. ::_,_,h| .str _::_,_,h| .agg .. ::_,_,h| .row .. ::_,_,h| .lst .. ::_,_,h| .win .. ::_,_,h| .ref .. ::_,_,h| .rop .. ::_,_,h| .nilp::_,_,h| .clo .. ::_,_,h| .nilf::_,_,h| .nili::_,_,h| .ifv::_,_,h| .tup _::_,_,h| .undef::_,_,h=>by simp[boolsOf]at h
theorem CY {os:Array Oper} {Q:Exit→Act→World→Prop} {i:Nat} {rest:List Nat} {a:Act} {o:Oper} (ho:os[i]?=some o) (hg:o.guard=none) (h:o.wp P a w (wpOps P os Q rest) Q):wpOps P os Q (i::rest) a w:=by
 simp only[wpOps,ho]
 rw[if_pos (by simp[Region.wanted,hg])]
 exact .inl h
theorem GR {o:Oper} {a:Act} {next:Act→World→Prop} {Q:Exit→Act→World→Prop} {c:Value} (hr:(execOp a.eval o).run P w= .ok (.value c) w') (h:next (a.put o.dst c) w'):o.wp P a w next Q:=by
 unfold Oper.wp
 rw[hr];exact h
theorem Tf {o:Oper} {a:Act} {next:Act→World→Prop} {Q:Exit→Act→World→Prop} (hd:o.dst=none) (hr:(execOp a.eval o).run P w= .ok .skip w') (h:next a w'):o.wp P a w next Q:=by
 unfold Oper.wp
 rw[hr]
 simp only[Oper.upon,hd,Act.put]
 exact h
theorem D8 {a:Act} {d x:Nat} {c:Value} (h:x≠d):(a.put (some d) c).eval (.tmp x)=a.eval (.tmp x):=by
 simp only[Act.eval,Act.put]
 show(a.tmps.setIfInBounds d c).getD x undef=a.tmps.getD x undef
 simp[Array.getD_eq_getD_getElem?,Array.getElem?_setIfInBounds,Ne.symm h]
theorem Gq {a:Act} {d:Nat} {c:Value} (h:d<a.tmps.size):(a.put (some d) c).eval (.tmp d)=c:=by
 simp only[Act.eval,Act.put]
 show(a.tmps.setIfInBounds d c).getD d undef=c
 simp[Array.getD_eq_getD_getElem?,Array.getElem?_setIfInBounds,h]
theorem AAN (L:Lay P) (FO:FnOk P A) (HO:CU P A O) {R:Type} {Sl:List Nat} {fn:FuncId} {rid n:Nat} {os:Array Oper} {k:St→Option R} {r:R} {Q:Exit→Act→World→Prop} {rest:List Nat}
 (hc:∀i o,os[i]?=some o→EM P A Sl n fn rid i o=true):∀(is sk:List Nat) (st:St) (a:Act) (g:G) (w:World),a.tmps.size=n→SR P A g w st a.tmps→NO Sl st→
 DY P A O fn rid os sk is st k=some r→(∀st' a' w',k st'=some r→Aft P A Sl g w a st' a' w'→wpOps P os Q rest a' w')→wpOps P os Q (is++rest) a w:=by
 intro is
 induction is with
 |nil=>intro sk st a g w hn S N h hQ;exact hQ st a w h ⟨⟨g,Ext.refl g w,S⟩,N,rfl,rfl⟩
 |cons i is ih=>
  intro sk st a g w hn S N h hQ
  simp only[DY]at h
  simp only[List.cons_append,wpOps]
  split at h
  ·cases h
  ·rename_i o ho
   simp only[ho]
   have hco:=hc i o ho
   have run:∀{sk':List Nat} {st1:St},SR P A g w st1 a.tmps→NO Sl st1→Region.wanted o (yielded os a.tmps)=true→(op P A O fn rid i o st1 fun st=>DY P A O fn rid os sk' is st k)=some r→
    (if Region.wanted o (yielded os a.tmps)=true then o.wp P a w (wpOps P os Q (is++rest)) Q∨(o.asks P a w∧LetsOut Q)else wpOps P os Q (is++rest) (a.put o.dst undef) w):=by
    intro sk' st1 S1 N1 hw h1
    rw[if_pos hw]
    refine .inl (AAG L FO HO (by rw[hn];exact hco) S1 N1 h1 _ Q fun st' a' w' hk A1=> ?_)
    obtain⟨⟨g',E,S'⟩,N',hs,hdf⟩:=A1
    exact ih sk' st' a' g' w' (hs.trans hn) S' N' hk fun st2 a2 w2 h2 A2=>hQ st2 a2 w2 h2 (Aft.trans ⟨g',E,A2⟩ hs hdf)
   have pass:∀{sk':List Nat} {st1:St},SR P A g w st1 a.tmps→NO Sl st1→Region.wanted o (yielded os a.tmps)=false→DY P A O fn rid os sk' is (st1.put o.dst (.tup [])) k=some r→
    (if Region.wanted o (yielded os a.tmps)=true then o.wp P a w (wpOps P os Q (is++rest)) Q∨(o.asks P a w∧LetsOut Q)else wpOps P os Q (is++rest) (a.put o.dst undef) w):=by
    intro sk' st1 S1 N1 hw h1
    rw[hw]
    simp only[Bool.false_eq_true,if_false]
    have S2:SR P A g w (st1.put o.dst (.tup [])) (a.put o.dst undef).tmps:=
     S1.putO (fun d hd=>by rw[hn];exact Dt hco d hd) (v:= .tup []) (c:=undef) (.tup (vs:=[]) (cs:=[]) rfl rfl (by simp)) (fun _ _ _ _ hh=>by cases hh) (.inr rfl)
    exact ih sk' _ (a.put o.dst undef) g w ((Bl a o.dst undef).1.trans hn) S2 (N1.put (.inl rfl)) h1 fun st2 a2 w2 h2 A2=>
     hQ st2 a2 w2 h2 (Aft.trans ⟨g,Ext.refl g w,A2⟩ (Bl a o.dst undef).1 (Bl a o.dst undef).2)
   split at h
   ·rename_i hg
    exact run S N (by simp[Region.wanted,hg]) h
   ·rename_i j want hg
    split at h
    ·cases h
    ·rename_i d hd
     have hdn:d<a.tmps.size:=by
      rw[hn]
      obtain⟨oj,hoj,hdj⟩:=Option.bind_eq_some_iff.1 hd
      exact Dt (hc j oj hoj) d hdj
     split at h
     ·split at h
      ·rename_i hst
       have hV:=S.slot d
       rw[hst]at hV
       obtain⟨cs,hcs,_⟩:=hV.tup'
       exact pass S N (Jk hg hd (fun b hb=>by rw[hcs]at hb;cases hb)) h
      ·cases h
     ·rcases Ez h with⟨hb,h⟩|⟨hb,h⟩
      ·have hcv:a.tmps.getD d undef= .bool true:=by have:=S.slot d;rw[hb]at this;exact this.bool'
       have hw:=Ef hg hd hcv hdn
       split at h
       ·rename_i hwant
        exact run (Ee S hb) (N.lit d true) (by rw[hw,hwant];rfl) h
       ·rename_i hwant
        exact pass (Ee S hb) (N.lit d true) (by rw[hw];simp at hwant;rw[hwant];rfl) h
      ·have hcv:a.tmps.getD d undef= .bool false:=by have:=S.slot d;rw[hb]at this;exact this.bool'
       have hw:=Ef hg hd hcv hdn
       split at h
       ·rename_i hwant
        exact pass (Ee S hb) (N.lit d false) (by rw[hw,hwant];rfl) h
       ·rename_i hwant
        exact run (Ee S hb) (N.lit d false) (by rw[hw];simp at hwant;rw[hwant];rfl) h
theorem X7 (L:Lay P) (FO:FnOk P A) (HO:CU P A O) {R:Type} {Sl:List Nat} {n:Nat} {fn:FuncId} {i5 i6:Nat} {os5 os6:Array Oper} {D:PairD} (hD:Qe os5.toList os6.toList=some D)
 (hc5:∀i o,os5[i]?=some o→EM P A Sl n fn i5 i o=true) (hc6:∀i o,os6[i]?=some o→EM P A Sl n fn i6 i o=true) {st:St} {a:Act} {k:St→Option R} {r:R} (hn:a.tmps.size=n) (S:SR P A g w st a.tmps) (N:NO Sl st)
 (h:JV P A O D st k=some r) {Q5 Q:Exit→Act→World→Prop} (h5:∀a' w',wpOps P os6 Q [0,1,2,3,4] a' w'→Q5 .normal a' w') (hQ:∀st' a' w',k st'=some r→Aft P A Sl g w a st' a' w'→Q .normal a' w'):
 wpOps P os5 Q5 [2,3,4] a w:=by
 unfold Qe at hD
 split at hD
 case h_2=>cases hD
 rename_i p0 p1 o2 o3 o4 q0 q1 q2 q3 q4 hos5 hos6
 split at hD
 case h_2=>cases hD
 rename_i d2 f ar ts d3 sT bx m tS d3' d2' ho2d ho2 ho2g ho3d ho3 ho3g ho4d ho4 ho4g
 split at hD
 case h_2=>cases hD
 rename_i e0 sT' bx' m' e1 tS' e0' e2 ix hq0d hq0 hq0g hq1d hq1 hq1g hq2d hq2 hq2g
 split at hD
 case h_2=>cases hD
 rename_i e3 tS2 e1' e2' tE e3' v x hq3d hq3 hq3g hq4d hq4 hq4g har
 split at hD
 case isFalse=>cases hD
 rename_i hcond
 obtain⟨t1,t2,n1,t3,t4,t5,t6,t7,t8,t9,t10,t11,n2,n3,n4,n5,n6,n7,n8⟩:=hcond
 obtain rfl:=t1.symm
 obtain rfl:=t2.symm
 obtain rfl:=t3.symm
 obtain rfl:=t4.symm
 obtain rfl:=t5.symm
 obtain rfl:=t6.symm
 obtain rfl:=t7.symm
 obtain rfl:=t8.symm
 obtain rfl:=t9.symm
 obtain rfl:=t10.symm
 obtain rfl:=t11.symm
 obtain rfl:=Option.some.inj hD
 have g5:∀i o,os5.toList[i]?=some o→os5[i]?=some o:=fun i o ho=>by rw[←Array.getElem?_toList];exact ho
 have g6:∀i o,os6.toList[i]?=some o→os6[i]?=some o:=fun i o ho=>by rw[←Array.getElem?_toList];exact ho
 have k2:=g5 2 o2 (by rw[hos5];rfl)
 have k3:=g5 3 o3 (by rw[hos5];rfl)
 have k4:=g5 4 o4 (by rw[hos5];rfl)
 have m0:=g6 0 q0 (by rw[hos6];rfl)
 have m1:=g6 1 q1 (by rw[hos6];rfl)
 have m2:=g6 2 q2 (by rw[hos6];rfl)
 have m3:=g6 3 q3 (by rw[hos6];rfl)
 have m4:=g6 4 q4 (by rw[hos6];rfl)
 have hd2:=Dt (hc5 2 o2 k2) _ ho2d
 have hd3:=Dt (hc5 3 o3 k3) _ ho3d
 have he0:=Dt (hc6 0 q0 m0) _ hq0d
 have he1:=Dt (hc6 1 q1 m1) _ hq1d
 have he2:=Dt (hc6 2 q2 m2) _ hq2d
 have he3:=Dt (hc6 3 q3 m3) _ hq3d
 unfold JV at h
 split at h
 case isFalse=>cases h
 rename_i hf
 simp only[Bool.and_eq_true,Bool.not_eq_true',decide_eq_true_eq]at hf
 obtain⟨⟨hp,hx⟩,hsq⟩:=hf
 obtain⟨rr,hr,h⟩:=Option.bind_eq_some_iff.1 h
 split at h
 case h_2=>cases h
 rename_i e xs id p t' kk j hr1 hbx hix
 obtain⟨bs,hbs,h⟩:=Option.bind_eq_some_iff.1 h
 obtain⟨ad,had,h⟩:=Option.bind_eq_some_iff.1 h
 split at h
 case isFalse=>cases h
 rename_i hj
 simp only[Bool.and_eq_true,decide_eq_true_eq]at hj
 obtain⟨⟨hj0,hj1⟩,hjt⟩:=hj
 obtain⟨h',hst,hfin⟩:=Option.bind_eq_some_iff.1 h
 have hj1':j.toNat<bs.length:=Nat.le_of_ble_eq_true hj1
 obtain rfl:=Jq hbs
 unfold Hz at hst
 split at hst
 case h_2=>cases hst
 rename_i id2 p2 t2
 split at hst
 case isFalse=>cases hst
 rename_i ht2
 subst ht2
 split at hst
 case isFalse=>cases hst
 rename_i hok
 simp only[Bool.and_eq_true]at hok
 obtain⟨hty,hun⟩:=hok
 obtain⟨rv,rh⟩:=rr
 simp only at hr1
 subst hr1
 have hVbx:=S.slot bx
 rw[hbx]at hVbx
 generalize hcbx:a.tmps.getD bx undef=cbx at hVbx
 have hebx:a.eval (.tmp bx)=cbx:=hcbx
 cases hVbx.leaf' rfl (by simp)with
 |ref _ _ _ bt o b r1 r2 r3=>
 obtain⟨ca,_,hVF,_⟩:=IG (g:=g) (w:=w) L had (.lf rfl (.ref id p t' bt o b r1 r2 r3))
 cases hVF.leaf' rfl (by simp)with
 |ref _ _ _ bt2 ob b2 s1 s2 s3=>
 have hF:∀w1:World,(Instr.fieldAt sT (.pointer (some ⟨b,o,none⟩)) m).run P w1= .ok (.pointer (some ⟨b2,ob,none⟩)) w1:=by
  intro w1
  obtain⟨c',h1,h2,_⟩:=IG (g:=g) (w:=w1) L had (.lf rfl (.ref id p t' bt o b r1 r2 r3))
  cases h2.leaf' rfl (by simp)with
  |ref _ _ _ bt3 o3 b3 u1 u2 u3=>
   rw[s1]at u1;obtain rfl:=Option.some.inj u1
   rw[s2]at u2;obtain⟨rfl,_⟩:=Prod.mk.inj (Option.some.inj u2)
   rw[s3]at u3;obtain rfl:=Option.some.inj (Option.some.inj u3)
   exact h1
 have hVix:=S.slot ix
 rw[hix]at hVix
 have heix:a.eval (.tmp ix)= .int kk j:=hVix.int'
 have hcall:=X6 L FO HO S (f:=f) (vs:=[st.ev P A (ts.getD 0 0) x]) (args:= #[a.eval x]) (.inr (b2,ob)) rfl (fun i v c h1 h2=>by
  cases i with
  |zero=>simp at h1 h2;subst h1 h2;exact S.ev _ x
  |succ i=>simp at h1) hp hr
 obtain⟨_,_,⟨ff,cc,hff,hbb⟩,_⟩:=HO _ _ _ _ hr
 have hne:=FO.name f ff hff
 have hb:(ff.name== "runtime.NumGoroutine")=false:=by simpa using hne
 have har':ar= #[x]:=by
  have:ar.toList=[x]:=har
  exact Array.ext' this
 have hinv:Inv P (a.eval (.func f)) (ar.map a.eval) w fun c w'=>∃g',Old g w g' w'∧WG g' w'∧g'.β=g.β∧g'.ty=g.ty∧SR P A g' w' st a.tmps∧VR P g' w' (.lst e .own (bs.map V.bool)) c∧Own P g' w' e (bs.map V.bool).length c (.inr (b2,ob))∧(∀b off len cap,c= .slice (some ⟨b,off,none⟩) len cap→w.heap.size≤b):=by
  have hrun:(Deferred.ofValue (.func (.func f) #[] #[]) #[a.eval x]>>= fun d=>invoke d.target d.args).run P w= .ok (.enter f #[a.eval x]) w:=by
   simp only[Deferred.ofValue,invoke,Sem.run_bind,Sem.run_pure,Result.andThen_ok,callFunc,run_program,hff,hb,hbb,Option.isNone_some,Bool.false_eq_true,if_false,Array.empty_append,Array.append_empty]
  rw[har']
  unfold Inv
  rw[show(#[x].map a.eval)= #[a.eval x]by simp,show a.eval (.func f)= .func (.func f) #[] #[]from rfl,hrun]
  refine Calls.mono hcall fun e' w' he=> ?_
  obtain⟨c,g',rfl,q⟩:=he
  exact⟨c,rfl,g',q⟩
 obtain⟨o2d,o2o,o2t,o2p,o2a,o2gg⟩:=o2
 simp only at ho2d ho2 ho2g
 subst ho2d ho2 ho2g
 refine CY k2 rfl (hinv.goal fun c w1 hh=> ?_)
 obtain⟨g1,O1,W1,hβ,hτ,S1,hV,hO,hnew⟩:=hh
 obtain⟨bn,on,cap,rfl,hbn,e1c,e1f,hc1,O2,W2,hV2,hO2⟩:=AAM L O1 W1 hj1' v hV hO hnew
 have S2:SR P A g1 (w1.setCells bn (on+j.toNat) [.bool v]) st a.tmps:=S.old O2 W2 hβ hτ
 obtain⟨hHT,hAR⟩:=Dq hty hV2
 have hb2:b2<w.heap.size:=(S.wg.box id2 b2 s3).1
 have hb2n:b2≠bn:=by omega
 have hlen2:((bs.set j.toNat v).map V.bool).length=(bs.map V.bool).length:=by simp
 obtain⟨E3,S3,q1,q2⟩:=S2.wr L (by rw[hτ];exact s1) s2 (by rw[hβ];exact s3) hHT (hAR.cells L hHT) (fun jj c e' xs' hjj hcj=>by
  have hj0:jj=0:=by
   cases jj with
   |zero=>rfl
   |succ jj=>simp[V.fl]at hjj
  subst hj0
  simp[V.fl]at hjj
  obtain⟨rfl,rfl⟩:=hjj
  simp[Value.cells]at hcj
  subst hcj
  rw[hlen2]at*
  simpa using hO2) hun hst
 have hcl:(Value.slice (some ⟨bn,on,none⟩) bs.length cap).cells.toList=[Value.slice (some ⟨bn,on,none⟩) bs.length cap]:=rfl
 rw[hcl]at E3 S3 q1 q2
 have hheap:(w1.setCells bn (on+j.toNat) [.bool v]).heap[b2]?=w1.heap[b2]?:=by
  simp only[World.setCells,World.setCell,Array.getElem?_modify,if_neg (Ne.symm hb2n)]
 have qc:(w1.cell? ⟨b2,ob,none⟩).isSome=true:=by
  have:=q1 0 (by simp)
  rw[Gh hheap]at this
  simpa using this
 have qf:w1.frozen? ⟨b2,ob,none⟩=false:=by
  have:=q2 0 (by simp)
  rw[BG hheap]at this
  simpa using this
 have hk:K P t2= .slice e:=by
  cases hHT with
  |lst hk=>exact hk
  |scal _ hv _=>simp[V.scal]at hv
 have hV1:=(Dq (P:=P) (g:=g1) (w:=w1) (t:=t2) (v:= .lst e .own (bs.map V.bool)) (c:= .slice (some ⟨bn,on,none⟩) bs.length cap) (by rw[BK,hk];simp) hV)
 have hKe:=(L.slice t2 e hk).2
 generalize hc:Value.slice (some ⟨bn,on,none⟩) bs.length cap=c at*
 have sz:∀(b:Act) (d:Nat) (y:Value),(b.put (some d) y).tmps.size=b.tmps.size:=fun b d y=>(Bl b (some d) y).1
 have hcell:((w1.setCells b2 ob [c]).cell? ⟨b2,ob,none⟩)=some c:=by
  have:=World.cell?_setCells_in b2 [c] ob w1 (fun jj hj=>by
   have:jj=0:=by simp at hj;omega
   subst this;simpa using qc) 0 (by simp)
  simpa using this
 have hcell2:((w1.setCells b2 ob [c]).cell? ⟨bn,on+j.toNat,none⟩).isSome=true:=by
  rw[World.cell?_setCells_out b2 [c] ob w1 _ (fun h1 _=>absurd h1 (Ne.symm hb2n))];exact e1c
 have hheap2:(w1.setCells b2 ob [c]).heap[bn]?=w1.heap[bn]?:=by
  simp only[World.setCells,World.setCell,Array.getElem?_modify,if_neg hb2n]
 obtain⟨hTE,hAE⟩:=Dq (P:=P) (g:=g1) (w:=w1.setCells b2 ob [c]) hjt (VR.of_bool v)
 refine CY k3 ho3g (GR (w':=w1) (c:= .pointer (some ⟨b2,ob,none⟩)) ?_ ?_)
 ·simp only[execOp,ho3,D8 n3,hebx]
  simp[hF]
 rw[ho3d]
 refine CY k4 ho4g (Tf (w':=w1.setCells b2 ob [c]) ho4d ?_ ?_)
 ·simp only[execOp,ho4,D8 n1,Gq (show d3<(a.put (some d2) c).tmps.size by rw[sz,hn];exact hd3),Gq (show d2<a.tmps.size by rw[hn];exact hd2)]
  have:=Eb (P:=P) (g:=g1) (w:=w1) L hV1.1 hV1.2 (b:=b2) (o:=ob) (fun jj hj=>by
   have hj0:jj=0:=by rw[←hc]at hj;simp[Value.cells]at hj;omega
   subst hj0;simpa using qc) (fun jj hj=>by
   have hj0:jj=0:=by rw[←hc]at hj;simp[Value.cells]at hj;omega
   subst hj0;simpa using qf)
  rw[hcl]at this
  simp[this]
 refine h5 _ _ ?_
 refine CY m0 hq0g (GR (w':=w1.setCells b2 ob [c]) (c:= .pointer (some ⟨b2,ob,none⟩)) ?_ ?_)
 ·simp only[execOp,hq0,D8 n4,D8 n3,hebx]
  simp[hF]
 rw[hq0d]
 refine CY m1 hq1g (GR (w':=w1.setCells b2 ob [c]) (c:=c) ?_ ?_)
 ·simp only[execOp,hq1,Gq (show e0<((a.put (some d2) c).put (some d3) (.pointer (some ⟨b2,ob,none⟩))).tmps.size by rw[sz,sz,hn];exact he0)]
  simp[N7 hk hcell]
 rw[hq1d]
 refine CY m2 hq2g (GR (w':=w1.setCells b2 ob [c]) (c:= .int kk j) ?_ ?_)
 ·simp only[execOp,hq2,D8 n8,D8 n7,D8 n6,D8 n5,heix]
  rfl
 rw[hq2d]
 have hjn:((j.toNat:Nat):Int)=j:=by omega
 refine CY m3 hq3g (GR (w':=w1.setCells b2 ob [c]) (c:= .pointer (some ⟨bn,on+j.toNat,none⟩)) ?_ ?_)
 ·simp only[execOp,hq3,D8 n2,Gq (show e1<(((a.put (some d2) c).put (some d3) (.pointer (some ⟨b2,ob,none⟩))).put (some e0) (.pointer (some ⟨b2,ob,none⟩))).tmps.size by rw[sz,sz,sz,hn];exact he1),
   Gq (show e2<((((a.put (some d2) c).put (some d3) (.pointer (some ⟨b2,ob,none⟩))).put (some e0) (.pointer (some ⟨b2,ob,none⟩))).put (some e1) c).tmps.size by rw[sz,sz,sz,sz,hn];exact he2)]
  have:=NZ (P:=P) (w:=w1.setCells b2 ob [c]) (b:=bn) (off:=on) (n:=bs.length) (cap:=cap) (i:=j.toNat) (k:=kk) hk hKe hj1'
  rw[hjn,hc1,Nat.mul_one,hc]at this
  simp[this]
 rw[hq3d]
 refine CY m4 hq4g (Tf (w':=(w1.setCells b2 ob [c]).setCells bn (on+j.toNat) [.bool v]) hq4d ?_ ?_)
 ·simp only[execOp,hq4,Gq (show e3<(((((a.put (some d2) c).put (some d3) (.pointer (some ⟨b2,ob,none⟩))).put (some e0) (.pointer (some ⟨b2,ob,none⟩))).put (some e1) c).put (some e2) (.int kk j)).tmps.size by rw[sz,sz,sz,sz,sz,hn];exact he3)]
  have:=Eb (P:=P) (g:=g1) (w:=w1.setCells b2 ob [c]) L hTE hAE (b:=bn) (o:=on+j.toNat) (fun jj hj=>by
   have hj0:jj=0:=by simp[Value.cells]at hj;omega
   subst hj0;simpa using hcell2) (fun jj hj=>by
   have hj0:jj=0:=by simp[Value.cells]at hj;omega
   subst hj0;rw[BG hheap2];simpa using e1f)
  rw[show(Value.bool v).cells.toList=[.bool v]from rfl]at this
  have hce:∀b:Act,b.eval (.const (.bool v))= .bool v:=fun _=>rfl
  rw[hce]
  simp[this]
 simp only[wpOps]
 refine hQ _ _ _ hfin ⟨⟨g1,?_,?_⟩,?_,?_,?_⟩
 ·rw[I7 hb2n];exact O2.ext.trans E3
 ·rw[I7 hb2n]
  have T:∀{st:St} {b:Act} {d:Nat} {y:Value},SR P A g1 ((w1.setCells bn (on+j.toNat) [.bool v]).setCells b2 ob [c]) st b.tmps→d<b.tmps.size→SR P A g1 ((w1.setCells bn (on+j.toNat) [.bool v]).setCells b2 ob [c]) (st.put (some d) .undef) (b.put (some d) y).tmps:=
   fun S hd=>S.putO (fun d' h=>by cases h;exact hd) (.dead _) (fun _ _ _ _ hh=>by cases hh) (.inr rfl)
  exact T (T (T (T (T (T S3 (by rw[hn];exact hd2)) (by rw[sz,hn];exact hd3)) (by rw[sz,sz,hn];exact he0)) (by rw[sz,sz,sz,hn];exact he1)) (by rw[sz,sz,sz,sz,hn];exact he2)) (by rw[sz,sz,sz,sz,sz,hn];exact he3)
 ·have T:∀{st:St} {d:Nat},NO Sl st→NO Sl (st.put (some d) .undef):=fun N=>N.put (.inl rfl)
  exact T (T (T (T (T (T (N.h h'))))))
 ·rw[sz,sz,sz,sz,sz,sz]
 ·simp[Act.put]
end
end AM
end
section
namespace AM
open Go
section
variable {P:Program} {A:Ann} {O:Orc} {g g':G} {w w':World}
def LoopWp (P:Program) (b:Code) (Q:Exit→Act→World→Prop) (a:Act) (w:World):Prop:=
 ∀(fr:Frame) (k:List Item) (cs:List Frame),∃e a' w',Q e a' w'∧Arrives P (lone (fr.at a (.code b:: .inLoop b::k)) cs w) fr k cs e a' w'
theorem LoopWp.wp {b:Code} {Q:Exit→Act→World→Prop} {a:Act} {w:World} (h:LoopWp P b Q a w):(Code.loop b).wp P Q a w:=by
 intro fr k cs
 obtain⟨e,a',w',hq,harr⟩:=h fr k cs
 exact⟨e,a',w',hq,.of_steps (.one step_loop) harr⟩
theorem LoopWp.step {b:Code} {Q:Exit→Act→World→Prop} {a:Act} {w:World} (h:b.wp P (Exit.then (LoopWp P b Q) Q) a w):LoopWp P b Q a w:=by
 intro fr k cs
 obtain⟨e,a₁,w₁,hq,harr⟩:=h fr (.inLoop b::k) cs
 cases e with
 |normal=>
  obtain⟨e₂,a₂,w₂,hq₂,harr₂⟩:=hq fr k cs
  exact⟨e₂,a₂,w₂,hq₂,.of_steps (Steps.trans harr (.one step_inLoop)) harr₂⟩
 |exit id=>exact⟨_,a₁,w₁,hq,.pass (x:= .inLoop b) rfl (fun _ _=> .inl (by simp)) harr⟩
 |goto l=>exact⟨_,a₁,w₁,hq,.pass (x:= .inLoop b) rfl (fun _ _=> .inl (by simp)) harr⟩
 |ret=>exact⟨_,a₁,w₁,hq,.pass (x:= .inLoop b) rfl (fun _ _=> .inl (by simp)) harr⟩
 |panic ch=>exact⟨_,a₁,w₁,hq,.pass (x:= .inLoop b) rfl (fun _ _=> .inl (by simp)) harr⟩
 |outgrown=>exact⟨_,a₁,w₁,hq,.pass (x:= .inLoop b) rfl (fun _ _=> .inl (by simp)) harr⟩
def Ep (P:Program) (A:Ann) (S:List Nat) (n:Nat) (fn:FuncId):Code→Bool
 | .region id os d=>((List.range os.size).all fun i=>match os[i]? with
  |some o=>EM P A S n fn id i o
  |none=>false)&&(!d||NV P A fn id os)
 | .seq a b=>Ep P A S n fn a&&Ep P A S n fn b
 | .cond _ a b=>Ep P A S n fn a&&Ep P A S n fn b
 | .block _ b=>Ep P A S n fn b
 | .loop b=>Ep P A S n fn b
 |_=>true
 termination_by structural c=>c
def ACN:Ex→Exit
 | .normal=> .normal
 | .exit id=> .exit id
 | .ret=> .ret
def AAO (P:Program) (A:Ann) (fn:FuncId) (b:Code) (st:St) (r:Ex×St):Prop:=
 ∀(S:List Nat) (n:Nat) (a:Act) (g:G) (w:World),Ep P A S n fn b=true→a.tmps.size=n→SR P A g w st a.tmps→NO S st→
  ∀Q:Exit→Act→World→Prop,(∀a' w',Aft P A S g w a r.2 a' w'→Q (ACN r.1) a' w')→LoopWp P b Q a w
def Gs (P:Program) (A:Ann) (O:Orc):Prop:=∀fn blk b st r,O.loop fn blk b st=some r→AAO P A fn b st r
theorem Old.drew (w:World) (g:G):Old g w g {w with drawn:=w.drawn+1}:=
 ⟨rfl,rfl,rfl,Nat.le_refl _,fun b hb=>⟨rfl,rfl,rfl,rfl⟩,⟨[],by simp⟩,⟨[],by simp⟩⟩
theorem I8 (L:Lay P) (FO:FnOk P A) (HO:CU P A O) (HL:Gs P A O) (hm:P.follows .mixedOrders=true) {R:Type} {Sl:List Nat} {n:Nat} {fn:FuncId} {r:R}:∀(c:Code) (blk:Nat) (st:St) (a:Act) (g:G) (w:World) (k:Ex→St→Option R),
 Ep P A Sl n fn c=true→a.tmps.size=n→SR P A g w st a.tmps→NO Sl st→BQ P A O fn blk c st k=some r→
 ∀Q:Exit→Act→World→Prop,(∀e st' a' w',k e st'=some r→Aft P A Sl g w a st' a' w'→Q (ACN e) a' w')→c.wp P Q a w:=by
 intro c
 induction c with
 |skip=>intro blk st a g w k hc hn S N h Q hQ;exact wp_skip (hQ .normal st a w h ⟨⟨g,Ext.refl g w,S⟩,N,rfl,rfl⟩)
 |region id os d=>
  intro blk st a g w k hc hn S N h Q hQ
  simp only[BQ]at h
  split at h
  ·rename_i hap
   simp only[Ep,Bool.and_eq_true,List.all_eq_true,List.mem_range,Bool.or_eq_true,Bool.not_eq_true']at hc
   obtain⟨hc1,hc2⟩:=hc
   have hco:∀i o,os[i]?=some o→EM P A Sl n fn id i o=true:=by
    intro i o ho
    have:=hc1 i (Array.getElem?_eq_some_iff.1 ho).1
    rw[ho]at this;exact this
   have S1:SR P A g w {st with s:=AM.drop (A.pre fn id) st.s} a.tmps:=S.less (DT st _) rfl
   have N1:NO Sl {st with s:=AM.drop (A.pre fn id) st.s}:=N.less (DT st _)
   have back:∀{g:G} {w:World} (st':St) (a':Act) (w':World),Aft P A Sl g w a st' a' w'→Aft P A Sl g w a {st' with s:=AM.drop (A.kills fn id) st'.s} a' w':=by
    rintro g w st' a' w' ⟨⟨g',E,S'⟩,N',h1,h2⟩
    exact⟨⟨g',E,S'.less (DT st' _) rfl⟩,N'.less (DT st' _),h1,h2⟩
   cases d with
   |false=>exact wp_region (WY L FO HO hco _ _ _ a g w hn S1 N1 h fun st' a' w' hk A'=>hQ .normal _ a' w' hk (back st' a' w' A'))
   |true=>
    have hreg:NV P A fn id os=true:=by simpa using hc2
    refine wp_region_draw fun t=> ?_
    rw[hm]
    have O1:=Old.drew w g
    have S2:SR P A g {w with drawn:=w.drawn+1} {st with s:=AM.drop (A.pre fn id) st.s} a.tmps:=S1.old O1 ⟨S1.wg.fresh,S1.wg.box,S1.wg.le⟩ rfl rfl
    exact WY L FO HO hco _ _ _ a g _ hn S2 N1 (QT hreg hap h t) fun st' a' w' hk A'=>hQ .normal _ a' w' hk (back st' a' w' (Aft.trans ⟨g,O1.ext,A'⟩ rfl rfl))
  ·cases h
 |seq x y ihx ihy=>
  intro blk st a g w k hc hn S N h Q hQ
  simp only[Ep,Bool.and_eq_true]at hc
  simp only[BQ]at h
  refine wp_seq (ihx blk st a g w _ hc.1 hn S N h _ fun e st' a' w' hk A'=> ?_)
  obtain⟨⟨g',E,S'⟩,N',h1,h2⟩:=A'
  cases e with
  |normal=>exact ihy blk st' a' g' w' k hc.2 (h1.trans hn) S' N' hk Q fun e st2 a2 w2 hk2 A2=>hQ e st2 a2 w2 hk2 (Aft.trans ⟨g',E,A2⟩ h1 h2)
  |exit j=>exact hQ (.exit j) st' a' w' hk ⟨⟨g',E,S'⟩,N',h1,h2⟩
  |ret=>exact hQ .ret st' a' w' hk ⟨⟨g',E,S'⟩,N',h1,h2⟩
 |cond x p q ihp ihq=>
  intro blk st a g w k hc hn S N h Q hQ
  simp only[Ep,Bool.and_eq_true]at hc
  simp only[BQ]at h
  have hV:=S.ev 0 x
  rcases Ez h with⟨hb,h⟩|⟨hb,h⟩
  ·rw[hb]at hV
   exact wp_cond_true hV.bool' (ihp blk st a g w k hc.1 hn S N h Q hQ)
  ·rw[hb]at hV
   exact wp_cond_false hV.bool' (ihq blk st a g w k hc.2 hn S N h Q hQ)
 |block id b ih=>
  intro blk st a g w k hc hn S N h Q hQ
  simp only[Ep]at hc
  simp only[BQ]at h
  refine wp_block (ih id st a g w _ hc hn S N h _ fun e st' a' w' hk A'=> ?_)
  cases e with
  |normal=>exact hQ .normal st' a' w' hk A'
  |exit j=>
   simp only[PL]at hk
   show(if j=id then Q .normal a' w' else Q (.exit j) a' w')
   split at hk
   ·rename_i hj;rw[if_pos hj];exact hQ .normal st' a' w' hk A'
   ·rename_i hj;rw[if_neg hj];exact hQ (.exit j) st' a' w' hk A'
  |ret=>exact hQ .ret st' a' w' hk A'
 |loop b ih=>
  intro blk st a g w k hc hn S N h Q hQ
  simp only[Ep]at hc
  simp only[BQ,lp]at h
  obtain⟨rr,hr,hk⟩:=Option.bind_eq_some_iff.1 h
  have hless:∀i,({st with s:=AAl (A.keep fn blk) st.s}:St).get i=st.get i∨({st with s:=AAl (A.keep fn blk) st.s}:St).get i= .undef:=by
   intro i
   unfold AAl
   split
   ·exact .inl rfl
   ·exact Gn st st.h _ i
  exact(HL _ _ _ _ _ hr Sl n a g w hc hn (S.less hless rfl) (N.less hless) Q fun a' w' A'=>hQ rr.1 rr.2 a' w' hk A').wp
 |exit id=>intro blk st a g w k hc hn S N h Q hQ;exact wp_exit (hQ (.exit id) st a w h ⟨⟨g,Ext.refl g w,S⟩,N,rfl,rfl⟩)
 |ret=>intro blk st a g w k hc hn S N h Q hQ;exact wp_ret (hQ .ret st a w h ⟨⟨g,Ext.refl g w,S⟩,N,rfl,rfl⟩)
 |_=>intro blk st a g w k hc hn S N h;simp[BQ]at h
theorem Aft.refl {Sl:List Nat} {st:St} {a:Act} (S:SR P A g w st a.tmps) (N:NO Sl st):Aft P A Sl g w a st a w:=⟨⟨g,Ext.refl g w,S⟩,N,rfl,rfl⟩
theorem AAP (L:Lay P) (FO:FnOk P A) (HO:CU P A O) (HL:Gs P A O) (hm:P.follows .mixedOrders=true) {fn:FuncId} {blk:Nat} {b:Code} {st:St} {r:Ex×St} (h:round P A O fn blk b st=some r):AAO P A fn b st r:=by
 intro Sl n a g w hc hn S N Q hQ
 refine LoopWp.step ?_
 unfold round at h
 refine I8 L FO HO HL hm b blk st a g w _ hc hn S N h _ fun e st1 a1 w1 hk A1=> ?_
 obtain⟨⟨g1,E1,S1⟩,N1,h1,h2⟩:=A1
 have next:∀{st2:St},(∃g2,Ext g w g2 w1∧SR P A g2 w1 st2 a1.tmps)→NO Sl st2→lp O fn blk b (fun e st=>some (e,st)) st2=some r→LoopWp P b Q a1 w1:=by
  rintro st2 ⟨g2,E2,S2⟩ N2 hlp
  unfold lp at hlp
  obtain⟨rr,hr,he⟩:=Option.bind_eq_some_iff.1 hlp
  obtain rfl:=Option.some.inj he
  exact HL _ _ _ _ _ hr Sl n a1 g2 w1 hc (h1.trans hn) S2 N2 Q fun a' w' A'=>hQ a' w' (Aft.trans ⟨g2,E2,A'⟩ h1 h2)
 cases e with
 |normal=>
  simp only[Qd,cut]at hk
  show LoopWp P b Q a1 w1
  split at hk
  ·exact next ⟨g1,E1,S1⟩ N1 hk
  ·rename_i l hkeep
   split at hk
   ·rename_i hu
    exact next ⟨g1.trunc st.h.length w1,E1.trunc S.box S1.box S1.wg,S1.trunc FO hu⟩ (N1.less (Gn st1 _ l)) hk
   ·cases hk
  ·rename_i l hkeep
   exact next ⟨g1,E1,S1.less (Gn st1 _ l) rfl⟩ (N1.less (Gn st1 _ l)) hk
 |exit j=>
  obtain rfl:=Option.some.inj hk
  exact hQ a1 w1 ⟨⟨g1,E1,S1⟩,N1,h1,h2⟩
 |ret=>
  obtain rfl:=Option.some.inj hk
  exact hQ a1 w1 ⟨⟨g1,E1,S1⟩,N1,h1,h2⟩
theorem PE:∀(vs:List V) (k i:Nat),look i (Nj k vs)=if k≤i then(vs[i-k]?).getD .undef else .undef
 |[],k,i=>by simp[Nj,look]
 |v::vs,k,i=>by
  simp only[Nj,look]
  cases h:Nat.beq k i
  ·have hne:=Nat.ne_of_beq_eq_false h
   simp only[cond_false]
   rw[PE vs (k+1) i]
   by_cases h1:k+1≤i
   ·have e:i-k=(i-(k+1))+1:=by omega
    rw[if_pos h1,if_pos (by omega),e,List.getElem?_cons_succ]
   ·rw[if_neg h1,if_neg (by omega)]
  ·have:=Nat.eq_of_beq_eq_true h
   subst this
   simp
theorem IW {i:Nat} {vs:List V} {v:V} (h:Ai vs=true) (hv:vs[i]?=some v):v.noOwn=true:=by
 induction vs generalizing i with
 |nil=>simp at hv
 |cons x vs ih=>
  simp only[Ai,Bool.and_eq_true]at h
  cases i with
  |zero=>simp at hv;subst hv;exact h.1
  |succ i=>exact ih h.2 (by simpa using hv)
theorem U6 {l l':List Oper} {D:PairD} (h:Qe l l'=some D):l.length=5∧l'.length=5:=by
 unfold Qe at h
 split at h
 ·exact⟨rfl,rfl⟩
 ·cases h
theorem Wj {R:Type} {fn:FuncId} {c:Code} {st:St} {k:Ex→St→Option R} {r:R} (h:chain P A O fn 0 c st k=some r):
 ∃i5 os5 i6 os6 c',c= .seq (.region i5 os5 false) (.seq (.region i6 os6 false) c')∧IZ P A O fn i5 i6 os5 os6 st (fun st=>BQ P A O fn 0 c' st k)=some r:=by
 unfold chain at h
 split at h
 ·exact⟨_,_,_,_,_,rfl,h⟩
 ·rename_i hh;cases hh
 ·cases h
theorem Wl {R:Type} {fn:FuncId} {m:Nat} {c:Code} {st:St} {k:Ex→St→Option R} {r:R} (h:chain P A O fn (m+1) c st k=some r):
 ∃x y,c= .seq x y∧BQ P A O fn 0 x st (Wv (chain P A O fn m y) k)=some r:=by
 unfold chain at h
 split at h
 ·rename_i hh;cases hh
 ·rename_i hh;cases hh;exact⟨_,_,rfl,h⟩
 ·cases h
theorem JS {R:Type} {f:FuncId} {c:Code} {blk:Nat} {st:St} {k:Ex→St→Option R} {r:R} (hx:BQ P A O f blk c st k=some r):∃e st',k e st'=some r:=by
 have hb2:=OD (P:=P) (A:=A) (O:=O) f (fun(p:Ex×St)=>k p.1 p.2) c blk st (fun e st=>some (e,st))
 simp only[Option.bind_some]at hb2
 rw[hx]at hb2
 obtain⟨p,_,hp⟩:=Option.bind_eq_some_iff.1 hb2
 exact⟨_,_,hp⟩
theorem AAQ {R:Type} {f:FuncId} {rid:Nat} {os:Array Oper} {is sk:List Nat} {st:St} {k:St→Option R} {r:R} (hx:DY P A O f rid os sk is st k=some r):∃st',k st'=some r:=by
 have hb2:=Qi (P:=P) (A:=A) (O:=O) f rid os k is sk st some
 simp only[Option.bind_some]at hb2
 rw[hx]at hb2
 obtain⟨p,_,hp⟩:=Option.bind_eq_some_iff.1 hb2
 exact⟨_,hp⟩
theorem U7 {R:Type} {D:PairD} {st:St} {k:St→Option R} {r:R} (h:JV P A O D st k=some r):∃st',k st'=some r:=by
 unfold JV at h
 split at h
 ·obtain⟨_,_,h⟩:=Option.bind_eq_some_iff.1 h
  split at h
  ·obtain⟨_,_,h⟩:=Option.bind_eq_some_iff.1 h
   obtain⟨_,_,h⟩:=Option.bind_eq_some_iff.1 h
   split at h
   ·obtain⟨_,_,h⟩:=Option.bind_eq_some_iff.1 h
    exact⟨_,h⟩
   ·cases h
  ·cases h
 ·cases h
theorem U8 {R:Type} {f:FuncId} {r:R}:∀(m:Nat) {c:Code} {st:St} {k:Ex→St→Option R},chain P A O f m c st k=some r→∃e st',k e st'=some r:=by
 intro m
 induction m with
 |zero=>
  intro c st k h
  obtain⟨_,_,_,_,_,_,h⟩:=Wj h
  unfold IZ at h
  obtain⟨_,_,h⟩:=Option.bind_eq_some_iff.1 h
  obtain⟨_,h⟩:=AAQ h
  obtain⟨_,h⟩:=U7 h
  exact JS h
 |succ m ih=>
  intro c st k h
  obtain⟨_,_,_,h⟩:=Wl h
  obtain⟨e,_,h⟩:=JS h
  cases e with
  |normal=>exact ih h
  |exit j=>exact⟨_,_,h⟩
  |ret=>exact⟨_,_,h⟩
theorem U9 {R:Type} {f:FuncId} {c:Code} {st:St} {k:Ex→St→Option R} {r:R} (h:G5 P A O f c st k=some r):∃e st',k e st'=some r:=by
 unfold G5 at h
 split at h
 ·exact JS h
 ·exact U8 _ h
theorem X8 (L:Lay P) (FO:FnOk P A) (HO:CU P A O) (HL:Gs P A O) (hm:P.follows .mixedOrders=true) {R:Type} {Sl:List Nat} {n:Nat} {fn:FuncId} {r:R}:∀(m:Nat) (c:Code) (st:St) (a:Act) (g:G) (w:World) (k:Ex→St→Option R),
 Ep P A Sl n fn c=true→a.tmps.size=n→SR P A g w st a.tmps→NO Sl st→chain P A O fn m c st k=some r→
 ∀Q:Exit→Act→World→Prop,(∀e st' a' w',k e st'=some r→Aft P A Sl g w a st' a' w'→Q (ACN e) a' w')→c.wp P Q a w:=by
 intro m
 induction m with
 |zero=>
  intro c st a g w k hc hn S N h Q hQ
  obtain⟨i5,os5,i6,os6,c',hc0,hp0⟩:=Wj h
  ·clear h
   have h:=hp0
   clear hp0
   subst hc0
   unfold IZ at h
   obtain⟨D,hD,h⟩:=Option.bind_eq_some_iff.1 h
   obtain⟨z5,z6⟩:=U6 hD
   rw[Array.length_toList]at z5 z6
   simp only[Ep,Bool.and_eq_true,List.all_eq_true,List.mem_range,Bool.or_eq_true,Bool.not_eq_true']at hc
   obtain⟨⟨hc5,_⟩,⟨hc6,_⟩,hc'⟩:=hc
   have hco5:∀i o,os5[i]?=some o→EM P A Sl n fn i5 i o=true:=by
    intro i o ho
    have:=hc5 i (Array.getElem?_eq_some_iff.1 ho).1
    rw[ho]at this;exact this
   have hco6:∀i o,os6[i]?=some o→EM P A Sl n fn i6 i o=true:=by
    intro i o ho
    have:=hc6 i (Array.getElem?_eq_some_iff.1 ho).1
    rw[ho]at this;exact this
   have S1:SR P A g w {st with s:=AM.drop (A.pre fn i5) st.s} a.tmps:=S.less (DT st _) rfl
   have N1:NO Sl {st with s:=AM.drop (A.pre fn i5) st.s}:=N.less (DT st _)
   refine wp_seq (wp_region ?_)
   rw[z5,show List.range 5=[0,1]++[2,3,4]from rfl]
   refine AAN L FO HO hco5 _ _ _ a g w hn S1 N1 h fun st1 a1 w1 hk A1=> ?_
   obtain⟨⟨g1,E1,S1'⟩,N1',hs1,hdf1⟩:=A1
   refine X7 L FO HO hD hco5 hco6 (hs1.trans hn) S1' N1' hk (Q:=Exit.then (c'.wp P Q) Q) (fun a' w' hq=> ?_) (fun st' a' w' hk' A'=> ?_)
   ·show(Code.seq (.region i6 os6 false) c').wp P Q a' w'
    refine wp_seq (wp_region ?_)
    rw[z6];exact hq
   ·obtain⟨⟨g2,E2,S2⟩,N2,hs2,hdf2⟩:=A'
    show c'.wp P Q a' w'
    exact I8 L FO HO HL hm c' 0 _ a' g2 w' k hc' (hs2.trans (hs1.trans hn)) (S2.less (DT st' _) rfl) (N2.less (DT st' _)) hk' Q fun e st2 a2 w2 hk2 A2=>
     hQ e st2 a2 w2 hk2 (Aft.trans ⟨g1,E1,Aft.trans ⟨g2,E2,A2⟩ hs2 hdf2⟩ hs1 hdf1)
 |succ m ih=>
  intro c st a g w k hc hn S N h Q hQ
  obtain⟨x,y,hc0,hp0⟩:=Wl h
  ·clear h
   have h:=hp0
   clear hp0
   subst hc0
   simp only[Ep,Bool.and_eq_true]at hc
   refine wp_seq (I8 L FO HO HL hm x 0 st a g w _ hc.1 hn S N h _ fun e st' a' w' hk A'=> ?_)
   obtain⟨⟨g',E,S'⟩,N',h1,h2⟩:=A'
   cases e with
   |normal=>exact ih y st' a' g' w' k hc.2 (h1.trans hn) S' N' hk Q fun e st2 a2 w2 hk2 A2=>hQ e st2 a2 w2 hk2 (Aft.trans ⟨g',E,A2⟩ h1 h2)
   |exit j=>exact hQ (.exit j) st' a' w' hk ⟨⟨g',E,S'⟩,N',h1,h2⟩
   |ret=>exact hQ .ret st' a' w' hk ⟨⟨g',E,S'⟩,N',h1,h2⟩
theorem X9 (L:Lay P) (FO:FnOk P A) (HO:CU P A O) (HL:Gs P A O) (hm:P.follows .mixedOrders=true) {R:Type} {Sl:List Nat} {n:Nat} {fn:FuncId} {r:R} (c:Code) (st:St) (a:Act) (g:G) (w:World) (k:Ex→St→Option R)
 (hc:Ep P A Sl n fn c=true) (hn:a.tmps.size=n) (S:SR P A g w st a.tmps) (N:NO Sl st) (h:G5 P A O fn c st k=some r)
 (Q:Exit→Act→World→Prop) (hQ:∀e st' a' w',k e st'=some r→Aft P A Sl g w a st' a' w'→Q (ACN e) a' w'):c.wp P Q a w:=by
 unfold G5 at h
 split at h
 ·exact I8 L FO HO HL hm c 0 st a g w k hc hn S N h Q hQ
 ·exact X8 L FO HO HL hm _ c st a g w k hc hn S N h Q hQ
theorem ACO (L:Lay P) (FO:FnOk P A) (HO:CU P A O) (HL:Gs P A O) (hm:P.follows .mixedOrders=true) (S:FuncId→List Nat) (hS:∀f fn c,A.bad f=false→P.funcs[f]?=some fn→fn.body=some c→Ep P A (S f) fn.ntmps f c=true)
 {f:FuncId} {vs h:List V} {r:V×List V} (hb:body P A O f vs h=some r):Uy P A f vs h r∧(A.pure f=true→r.1.clean=true∨∃e xs,r.1= .lst e .own xs∧AQ xs=true)∧(∃fn c,P.funcs[f]?=some fn∧fn.body=some c)∧(A.ret f≠ .own→r.1.noOwn=true):=by
 unfold body at hb
 have hbd:A.bad f=false:=by
  cases hx:A.bad f with
  |false=>rfl
  |true=>rw[if_pos hx]at hb;cases hb
 rw[if_neg (by rw[hbd];exact Bool.false_ne_true)]at hb
 split at hb
 ·cases hb
 ·rename_i fn hfn
  split at hb
  ·cases hb
  ·rename_i c hc
   split at hb
   ·rename_i hle
    have fine:∀{e:Ex} {st':St},KU P A f fn h.length e st'=some r→(e= .normal∨e= .ret)∧KR P st' fn.results.toList [] (fin A f h.length st'.h)=some r:=by
     intro e st' he
     cases e with
     |normal=>exact⟨.inl rfl,he⟩
     |exit j=>cases he
     |ret=>exact⟨.inr rfl,he⟩
    have main:∀(g:G) (w:World) (args:Array Value) (l:Nat⊕(Nat×Nat)),BX P g w h→WG g w→GlobOk P A g w→vs.length=args.size→
     (∀(i:Nat) (v:V) (c:Value),vs[i]?=some v→args[i]?=some c→VR P g w v c)→Ai vs=true→
     Calls P f args w fun e w'=>∃c g',e= .returned c∧Ext g w g' w'∧VR P g' w' r.1 c∧(∀e xs,r.1= .lst e .own xs→Own P g' w' e xs.length c l)∧((∃e xs,r.1= .lst e .own xs)∨r.1.noOwn=true)∧
      BX P g' w' r.2∧WG g' w'∧GlobOk P A g' w':=by
     intro g w args l B W Gl hlen hv hno
     refine calls_of_wp hfn hc ?_
     let tm:Array Value:=args++Array.replicate (fn.ntmps-args.size) undef
     have hsz:tm.size=fn.ntmps:=by simp only[tm,Array.size_append,Array.size_replicate];omega
     have hget:∀i,(⟨Nj 0 vs,h⟩:St).get i=(vs[i]?).getD .undef:=by
      intro i
      simp only[St.get]
      rw[PE];simp
     have S0:SR P A g w ⟨Nj 0 vs,h⟩ tm:=by
      refine⟨fun i=> ?_,fun i e xs hi=> ?_,fun i=> .inr ?_,B,W,Gl⟩
      ·rw[hget]
       cases hvi:vs[i]? with
       |none=>exact .dead _
       |some v=>
        have hlt:=Ar hvi
        have hia:i<args.size:=by rw[←hlen];exact hlt
        have e1:tm.getD i undef=args[i]:=by
         rw[Array.getD_eq_getD_getElem?]
         simp only[tm]
         rw[Array.getElem?_append_left hia,Array.getElem?_eq_getElem hia];rfl
        rw[e1]
        exact hv i v _ hvi (Array.getElem?_eq_getElem hia)
      ·rw[hget]at hi
       cases hvi:vs[i]? with
       |none=>rw[hvi]at hi;cases hi
       |some v=>
        rw[hvi]at hi
        have:=IW hno hvi
        simp only[Option.getD_some]at hi
        rw[hi]at this;simp[V.noOwn]at this
      ·rw[hget]
       cases hvi:vs[i]? with
       |none=>rfl
       |some v=>exact IW hno hvi
     have N0:NO (S f) ⟨Nj 0 vs,h⟩:=by
      intro i e xs hi
      rcases S0.nown i with⟨e',xs',hh⟩|hh
      ·have:=S0.own i e' xs' hh
       rw[hget]at hh
       cases hvi:vs[i]? with
       |none=>rw[hvi]at hh;cases hh
       |some v=>
        rw[hvi]at hh
        have:=IW hno hvi
        simp only[Option.getD_some]at hh
        rw[hh]at this;simp[V.noOwn]at this
      ·rw[hi]at hh;simp[V.noOwn]at hh
     refine X9 L FO HO HL hm c _ {tmps:=tm,defers:=[]} g w _ (hS f fn c hbd hfn hc) hsz S0 N0 hb _ fun e st' a' w' hk A'=> ?_
     obtain⟨⟨g',E,S'⟩,N',h1,h2⟩:=A'
     obtain⟨he,hres⟩:=fine hk
     obtain⟨cv,v,hrun,hfin,hRR,hown⟩:=Td L S' hres
     obtain⟨g2,E2,q1,q2,q3,q4,q5,q6,_⟩:=ACM L FO l B W E S' hRR hown hfin
     have hpost:a'.defers=[]∧∃v,(results fn a'.tmps).run P w'= .ok v w'∧∃c g',Ending.returned v= .returned c∧Ext g w g' w'∧VR P g' w' r.1 c∧(∀e xs,r.1= .lst e .own xs→Own P g' w' e xs.length c l)∧((∃e xs,r.1= .lst e .own xs)∨r.1.noOwn=true)∧
      BX P g' w' r.2∧WG g' w'∧GlobOk P A g' w':=⟨h2,cv,hrun,cv,g2,rfl,E2,q1,q2,q3,q4,q5,q6⟩
     rcases he with rfl|rfl
     ·exact hpost
     ·exact hpost
    refine⟨fun g w args l B W Gl _ hlen hv hno=>main g w args l B W Gl hlen hv hno,fun hp=> ?_,⟨fn,c,hfn,hc⟩,fun hno=> ?_⟩
    all_goals
     obtain⟨e,st',hk⟩:=U9 hb
     obtain⟨_,hres⟩:=fine hk
     obtain⟨us,_,hh⟩:=PD _ _ hres
     have hf:∃v,fin A f h.length st'.h v=some r:=by
      rcases hh with⟨v,_,hv⟩|⟨_,_,hv⟩
      ·exact⟨v,hv⟩
      ·exact⟨_,hv⟩
     obtain⟨v,hf⟩:=hf
     unfold fin at hf
    ·have hret:=FO.pure f hp
     split at hf
     ·unfold AV at hf
      dsimp only at hf
      split at hf
      ·rename_i hok
       simp only[Bool.and_eq_true]at hok
       obtain rfl:=Option.some.inj hf
       exact .inl hok.1
      ·cases hf
     ·unfold Nl at hf
      split at hf
      ·obtain rfl:=Option.some.inj hf;exact .inl rfl
      ·obtain rfl:=Option.some.inj hf;exact .inl rfl
      ·split at hf
       ·split at hf
        ·split at hf
         ·obtain rfl:=Option.some.inj hf;exact .inl rfl
         ·cases hf
        ·cases hf
       ·cases hf
      ·cases hf
     ·rename_i hk;exact(hret hk).elim
     ·unfold AAm at hf
      split at hf
      ·obtain rfl:=Option.some.inj hf;exact .inl rfl
      ·obtain rfl:=Option.some.inj hf;exact .inl rfl
      ·obtain rfl:=Option.some.inj hf;exact .inl rfl
      ·cases hf
    ·split at hf
     ·unfold AV at hf
      dsimp only at hf
      split at hf
      ·obtain rfl:=Option.some.inj hf
       exact DK _
      ·cases hf
     ·rename_i hr;exact(hno hr).elim
     ·unfold KT at hf
      obtain rfl:=Option.some.inj hf
      exact DK _
     ·unfold AAm at hf
      split at hf
      ·obtain rfl:=Option.some.inj hf;rfl
      ·obtain rfl:=Option.some.inj hf;rfl
      ·obtain rfl:=Option.some.inj hf;rfl
      ·cases hf
   ·cases hb
theorem ACP (L:Lay P) (FO:FnOk P A) (hm:P.follows .mixedOrders=true) (S:FuncId→List Nat) (hS:∀f fn c,A.bad f=false→P.funcs[f]?=some fn→fn.body=some c→Ep P A (S f) fn.ntmps f c=true):∀k,CU P A (FQ P A k)∧Gs P A (FQ P A k):=by
 intro k
 induction k with
 |zero=>exact⟨fun f vs h r hr=>by simp[FQ,FW]at hr,fun fn blk b st r hr=>by simp[FQ,G6]at hr⟩
 |succ k ih=>
  exact⟨fun f vs h r hr=>ACO L FO ih.1 ih.2 hm S hS hr,fun fn blk b st r hr=>AAP L FO ih.1 ih.2 hm hr⟩
end
end AM
end
section
namespace AM
open Go
def AGo (P:Program) (A:Ann) (fn:FuncId) (rid i:Nat) (o:Oper):List Nat:=
 if(match o.op with
  | .move _=>AX i (A.take fn rid)
  | .assign _=>AX i (A.take fn rid)
  | .load _ _=>AX i (A.take fn rid)
  | .convert _ d _=>Iw P d&& !AX i (A.muts fn rid)
  | .makeSlice _ _ _=> !AX i (A.muts fn rid)
  | .buildSlice _ _ _=> !AX i (A.muts fn rid)
  | .call {callee:= .builtin .append,..}=> !AX i (A.muts fn rid)
  | .call {callee:= .value x,..}=> !Iy A x&&isFn x
  |_=>false)then o.dst.toList else[]
def AC9 (P:Program) (A:Ann) (fn:FuncId) (rid:Nat):Nat→List Oper→List Nat
 |_,[]=>[]
 |i,o::os=>AGo P A fn rid i o++AC9 P A fn rid (i+1) os
def VA (P:Program) (A:Ann) (fn:FuncId):Code→List Nat
 | .region id os _=>AC9 P A fn id 0 os.toList
 | .seq a b=>VA P A fn a++VA P A fn b
 | .cond _ a b=>VA P A fn a++VA P A fn b
 | .block _ b=>VA P A fn b
 | .loop b=>VA P A fn b
 |_=>[]
 termination_by structural c=>c
def AEg (P:Program) (A:Ann) (f:FuncId):List Nat:=match P.funcs[f]? with
 |some fn=>match fn.body with
  |some c=>VA P A f c
  |none=>[]
 |none=>[]
def AGp (P:Program) (A:Ann) (f:FuncId):Bool:=match P.funcs[f]? with
 |some fn=>match fn.body with
  |some c=>A.bad f||Ep P A (AEg P A f) fn.ntmps f c
  |none=>true
 |none=>true
def Na (P:Program) (A:Ann):Bool:=(List.range P.funcs.size).all (AGp P A)
theorem YA {P:Program} {A:Ann} (h:Na P A=true):∀f fn c,A.bad f=false→P.funcs[f]?=some fn→fn.body=some c→Ep P A (AEg P A f) fn.ntmps f c=true:=by
 intro f fn c hb hf hc
 simp only[Na,List.all_eq_true,List.mem_range]at h
 have:=h f (Array.getElem?_eq_some_iff.1 hf).1
 simp only[AGp,hf,hc,hb,Bool.false_or]at this
 exact this
def Wn (P:Program):Bool:=P.funcs.toList.all fun fn=> !(fn.name== "runtime.NumGoroutine")
def AAR (P:Program) (A:Ann):Bool:=(List.range P.funcs.size).all fun f=> !A.pure f||(match A.ret f with
 | .keep=>false
 |_=>true)
theorem Ti {P:Program} {A:Ann} (L:Lay P) (FO:FnOk P A) (hm:P.follows .mixedOrders=true) (hc:Na P A=true) {f:FuncId} {vs h:List V} {r:V×List V} (hr:G7 P A f vs h=some r):Uy P A f vs h r:=by
 obtain⟨k,hk⟩:=CO.1 hr
 exact((ACP L FO hm (AEg P A) (YA hc) k).1 f vs h r hk).1
end AM
end
end Go.Proofs.YtiegkempfolgcaaGreatDoor
