/-
  Part of the proof of a statement about the given program: an abstract machine over its code, the simulation, its functions' equations, what they compute.
-/
import Derived.Test.YtphoocnlpnnkdaaGreatDoorMg21
set_option linter.unusedVariables false
set_option linter.unusedSimpArgs false
set_option linter.unusedSectionVars false
noncomputable section
namespace Go.Proofs.YtphoocnlpnnkdaaGreatDoor
section
namespace AM
open Go
section
variable {P:Program} {A:Ann} {O:Orc} {g g':G} {w w':World}
def rv1 (P:Program) (st:St):ResultVar→Option V
 | .tmp t=>some (st.get t)
 | .cell a t=>if CS P depth t then CU st.h t (st.get a)else AX st.h t (st.get a)
def Jy (tm:Array Value):ResultVar→Sem Value
 | .tmp t=>pure (tm.getD t undef)
 | .cell a t=>do loadVar t (←asAddr (tm.getD a undef))
theorem TB (fn:Func) (tm:Array Value):results fn tm=(do let vs ←fn.results.mapM (Jy tm);pure (if h:vs.size=1 then vs[0]else .tuple vs)):=by
 unfold results
 congr 1
theorem VH {R:Type} {st:St} {k:V→Option R} {r:R}:∀(xs:List ResultVar) (vs:List V),QK P st xs vs k=some r→
 ∃us,xs.map (rv1 P st)=us.map some∧((∃v,vs.reverse++us=[v]∧k v=some r)∨((vs.reverse++us).length≠1∧(vs.reverse++us).all V.okE=true∧k (.tup (vs.reverse++us))=some r)):=by
 intro xs
 induction xs with
 |nil=>
  intro vs h
  refine⟨[],rfl,?_⟩
  rw[List.append_nil]
  match vs,h with
  |[v],h=>exact .inl ⟨v,rfl,h⟩
  |[],h=>
   simp only[QK]at h
   split at h
   ·exact .inr ⟨by simp,by simp,h⟩
   ·cases h
  |a::b::l,h=>
   simp only[QK]at h
   split at h
   ·rename_i hh
    exact .inr ⟨by simp,by rw[List.all_reverse];exact hh,h⟩
   ·cases h
 |cons x xs ih=>
  intro vs h
  cases x with
  |tmp t=>
   simp only[QK]at h
   obtain⟨us,h1,h2⟩:=ih _ h
   refine⟨st.get t::us,by simp[rv1,h1],?_⟩
   simpa using h2
  |cell a t=>
   simp only[QK]at h
   obtain⟨v,hv,h⟩:=Option.bind_eq_some_iff.1 h
   obtain⟨us,h1,h2⟩:=ih _ h
   refine⟨v::us,by simp[rv1,h1,hv],?_⟩
   simpa using h2
theorem AM2 (L:Lay P) {st:St} {tm:Array Value} (S:SR P A g w st tm) {x:ResultVar} {v:V} (h:rv1 P st x=some v):
 ∃c,(Jy tm x).run P w= .ok c w∧VR P g w v c∧((∃t,st.get t=v∧c=tm.getD t undef)∨v.noOwn=true):=by
 cases x with
 |tmp t=>
  simp only[rv1,Option.some.injEq]at h
  subst h
  exact⟨_,rfl,S.slot t,.inl ⟨t,rfl,rfl⟩⟩
 |cell a t=>
  simp only[rv1]at h
  obtain⟨c,hc,hv,hn⟩:=ZT L S.wg S.box h (S.slot a)
  refine⟨c,?_,hv,.inr hn⟩
  simp only[Instr.loadAt,Sem.run_bind]at hc
  simp only[Jy,Sem.run_bind]
  generalize tm.getD a undef=ca at hc
  cases ca with
  |pointer p=>
   cases p with
   |none=>simp[Instr.sureAddr]at hc
   |some ad=>simpa [Instr.sureAddr,asAddr]using hc
  |_=>simp[Instr.sureAddr]at hc
theorem Zp (L:Lay P) {R:Type} {st:St} {tm:Array Value} (S:SR P A g w st tm) {fn:Func} {k:V→Option R} {r:R} (h:QK P st fn.results.toList [] k=some r):
 ∃c v,(results fn tm).run P w= .ok c w∧k v=some r∧RR P g w v c∧(∀e xs,v= .lst e .own xs→∃t,st.get t=v∧c=tm.getD t undef):=by
 obtain⟨us,h1,h2⟩:=VH _ _ h
 simp only[List.reverse_nil,List.nil_append]at h2
 have hlen:fn.results.toList.length=us.length:=by have:=congrArg List.length h1;simpa using this
 have key:∀(i:Nat) (x:ResultVar) (v:V),fn.results.toList[i]?=some x→us[i]?=some v→∃c,(Jy tm x).run P w= .ok c w∧VR P g w v c∧((∃t,st.get t=v∧c=tm.getD t undef)∨v.noOwn=true):=by
  intro i x v hx hv
  refine AM2 L S ?_
  have:=congrArg (·[i]?) h1
  simp only[List.getElem?_map,hx,hv,Option.map_some,Option.some.injEq]at this
  exact this
 have ex:∀x∈fn.results.toList,∃c,(Jy tm x).run P w= .ok c w:=by
  intro x hx
  obtain⟨i,hi,rfl⟩:=List.mem_iff_getElem.1 hx
  obtain⟨c,hc,_⟩:=key i _ (us[i]'(by omega)) (List.getElem?_eq_getElem hi) (List.getElem?_eq_getElem _)
  exact⟨c,hc⟩
 classical
 let val:ResultVar→Value:=fun x=>if hx:∃c,(Jy tm x).run P w= .ok c w then Classical.choose hx else undef
 have hval:∀x∈fn.results.toList,(Jy tm x).run P w= .ok (val x) w:=by
  intro x hx
  have:=ex x hx
  simp only[val,dif_pos this]
  exact Classical.choose_spec this
 have hrun:=Jk (Jy tm) val fn.results hval
 have key2:∀(i:Nat) (c:Value) (v:V),(fn.results.toList.map val)[i]?=some c→us[i]?=some v→VR P g w v c∧((∃t,st.get t=v∧c=tm.getD t undef)∨v.noOwn=true):=by
  intro i c v hc hv
  rw[List.getElem?_map,Option.map_eq_some_iff]at hc
  obtain⟨x,hx,rfl⟩:=hc
  obtain⟨c',hc',h1,h2⟩:=key i x v hx hv
  rw[hval x (List.mem_of_getElem? hx)]at hc'
  injection hc' with hcc
  subst hcc
  exact⟨h1,h2⟩
 refine⟨if hh:(fn.results.map val).size=1 then(fn.results.map val)[0]else .tuple (fn.results.map val),?_⟩
 rcases h2 with⟨v,rfl,hk⟩|⟨hne,hok,hk⟩
 ·have h1':(fn.results.map val).size=1:=by simpa using hlen
  have hget:(fn.results.toList.map val)[0]?=some (fn.results.map val)[0]:=by
   rw[←Array.toList_map,Array.getElem?_toList,Array.getElem?_eq_getElem (by omega)]
  obtain⟨k1,k2⟩:=key2 0 _ v hget rfl
  refine⟨v,?_,hk,.one (by rw[dif_pos h1'];exact k1),fun e xs hv=> ?_⟩
  ·rw[TB]
   simp only[Sem.run_bind,hrun,Result.andThen_ok,Sem.run_pure]
  ·rw[dif_pos h1']
   rcases k2 with⟨t,a,b⟩|hn
   ·exact⟨t,a,b⟩
   ·subst hv;simp[V.noOwn]at hn
 ·have h1':¬(fn.results.map val).size=1:=by simpa using fun hh=>hne (by rw[←hlen];simpa using hh)
  have hne':fn.results.map val=(fn.results.toList.map val).toArray:=by apply Array.ext';simp
  refine⟨.tup us,?_,hk,?_,fun e xs hv=>by cases hv⟩
  ·rw[TB]
   simp only[Sem.run_bind,hrun,Result.andThen_ok,Sem.run_pure]
  ·rw[dif_neg h1',hne']
   refine .tup (by rw[←hlen];simp) fun j x c a b=> ?_
   have hx:x.okE=true:=(List.all_eq_true.1 hok) x (List.mem_of_getElem? a)
   cases (key2 j c x b a).1 with
   |val h=>exact h
   |dead c=>simp[V.okE]at hx
   |tup _ _ _=>simp[V.okE]at hx
theorem LR.non {e:TypeId} {xs:List V} {c:Value} (h:LR P g w (.lst e .own xs) c):LR P g w (.lst e .non xs) c:=by
 cases h with
 |emp _ _ a cap _ hs=>exact .emp e .non a cap (by simp) (fun h=>⟨(hs h).1,(hs h).2⟩)
 |lst _ _ _ b off cap cs _ ht hcl hn hcs hl hb hro hcap=>exact .lst e .non xs b off cap cs (by simp) ht (fun _=>hcl (by simp)) hn hcs hl hb hro hcap
theorem AM3 (L:Lay P) (FO:FnOk P A) {f:FuncId} {g0:G} {w0:World} {h0:List V} {st:St} {tm:Array Value} {v:V} {c:Value} {res:V×List V} (l:Nat⊕(Nat×Nat)) (B0:BX P g0 w0 h0) (W0:WG g0 w0) (E:Ext g0 w0 g w) (S:SR P A g w st tm)
 (hv:RR P g w v c) (ho:∀e xs,v= .lst e .own xs→∃t,st.get t=v∧c=tm.getD t undef) (h:fin A f h0.length st.h v=some res):
 ∃g',Ext g0 w0 g' w∧VR P g' w res.1 c∧(∀e xs,res.1= .lst e .own xs→Own P g' w e xs.length c l)∧((∃e xs,res.1= .lst e .own xs)∨res.1.noOwn=true)∧BX P g' w res.2∧WG g' w∧GlobOk P A g' w∧
  (A.ret f≠ .keep→res.1.clean=true∨∃e xs,res.1= .lst e .own xs∧AU xs=true):=by
 unfold fin at h
 split at h
 · -- trunc
   unfold AQ at h
   dsimp only at h
   split at h
   ·rename_i hok
    simp only[Bool.and_eq_true]at hok
    obtain rfl:=Option.some.inj h
    refine⟨g.trunc h0.length w,E.trunc B0 S.box S.wg,hv.unmut L S.box S.wg _ hok.2 hok.1,fun e xs hh=> ?_,.inr (En _),S.box.trunc S.wg _,S.wg.trunc S.box _,S.glob.trunc FO S.box S.wg _,fun _=> .inl hok.1⟩
    have:=En (v.unmut st.h)
    dsimp only at hh
    rw[hh]at this;simp[V.noOwn]at this
   ·cases h
 · -- own
   rename_i hret
   unfold TP at h
   split at h
   ·rename_i e xs
    obtain rfl:=Option.some.inj h
    obtain⟨t,ht,hct⟩:=ho e xs rfl
    have hOwn:=S.own t e xs ht
    rw[←hct]at hOwn
    have hV:VR P g w (.lst e .own xs) c:=by
     cases hv with
     |one h=>exact h
    have hclx:AU xs=true:=by
     have hlr:=hV.leaf' rfl (by simp)
     cases hlr with
     |emp=>rfl
     |lst _ _ _ _ _ _ _ _ _ hcl=>exact hcl (by simp)
    rcases hOwn with hl|⟨b,off,len,cap,cs,e',fz,k1,k2,k3,k4,k5,k6,k7,k8⟩
    ·refine⟨g.trunc h0.length w,E.trunc B0 S.box S.wg,hV.truncTo S.box S.wg _ (by simp[V.under]),fun e1 xs1 hh=> .inl hl,.inl ⟨e,xs,rfl⟩,S.box.trunc S.wg _,S.wg.trunc S.box _,S.glob.trunc FO S.box S.wg _,fun _=> .inr ⟨e,xs,rfl,hclx⟩⟩
    ·let g2:G:={g with H:=fun x=>if x=b then some l else g.H x}
     have E2:Ext g0 w0 g2 w:=by
      refine⟨E.os,E.tape,E.out,E.size,fun x hx h1 h2=> ?_,E.keep,E.beta,E.typ,E.bsz⟩
      obtain⟨a1,a2,a3,a4,a5⟩:=E.same x hx h1 h2
      refine⟨a1,?_,a3,a4,a5⟩
      have:x≠b:=by rintro rfl;rw[a2]at k2;cases k2
      simp[g2,this,a2]
     have B2:BX P g2 w st.h:=by
      refine⟨S.box.len,S.box.tys,S.box.inj,S.box.has,S.box.void,S.box.low,fun i y x h1 h2=> ?_⟩
      obtain⟨cs,e,fz,c1,c2,c3,c4⟩:=S.box.cells i y x h1 h2
      refine⟨cs,e,fz,c1,c2,c3,fun j z hz=> ?_⟩
      obtain⟨c,d1,d2,d3⟩:=c4 j z hz
      refine⟨c,d1,LR.congr (g:=g) (g2:=g2) rfl rfl rfl rfl d2,fun e xs hh=> ?_⟩
      rcases d3 e xs hh with hx|⟨b',off',len',cap',cs',e'',fz',m1,m2,m3,m4,m5,m6,m7,m8⟩
      ·exact .inl hx
      ·have:b'≠b:=by rintro rfl;rw[k2]at m2;cases m2
       exact .inr ⟨b',off',len',cap',cs',e'',fz',m1,by simp[g2,this,m2],m3,m4,m5,m6,m7,m8⟩
     have W2:WG g2 w:=by
      refine⟨fun x hx=> ?_,fun i x hx=> ?_,S.wg.le⟩
      ·obtain⟨a1,a2,a3⟩:=S.wg.fresh x hx
       have:x≠b:=by rintro rfl;rw[a1]at k2;cases k2
       exact⟨by simp[g2,this,a1],a2,a3⟩
      ·obtain⟨a1,a2,a3,a4⟩:=S.wg.box i x hx
       have:x≠b:=by rintro rfl;rw[a4]at k2;cases k2
       exact⟨a1,a2,a3,by simp[g2,this,a4]⟩
     have Gl2:GlobOk P A g2 w:=fun i t v hi=>by
      obtain⟨h1,h2,h3,h4⟩:=S.glob i t v hi
      have:i≠b:=by rintro rfl;rw[h2]at k2;cases k2
      exact⟨LR.congr (g:=g) (g2:=g2) rfl rfl rfl rfl h1,by simp[g2,this,h2],h3,h4⟩
     have hV2:VR P g2 w (.lst e .own xs) c:=VR.congr (g:=g) (g2:=g2) rfl rfl rfl rfl hV
     have hO2:Own P g2 w e xs.length c l:= .inr ⟨b,off,len,cap,cs,e',fz,k1,by simp[g2],k3,k4,k5,k6,k7,k8⟩
     refine⟨g2.trunc h0.length w,E2.trunc B0 B2 W2,hV2.truncTo B2 W2 _ (by simp[V.under]),fun e1 xs1 hh=> ?_,.inl ⟨e,xs,rfl⟩,B2.trunc W2 _,W2.trunc B2 _,Gl2.trunc FO B2 W2 _,fun _=> .inr ⟨e,xs,rfl,hclx⟩⟩
     cases hh
     exact hO2.truncTo B2 W2 _
   ·rename_i e xs
    obtain rfl:=Option.some.inj h
    have hV:VR P g w (.lst e .nil xs) c:=by
     cases hv with
     |one h=>exact h
    refine⟨g.trunc h0.length w,E.trunc B0 S.box S.wg,hV.truncTo S.box S.wg _ (by simp[V.under]),?_,.inr rfl,S.box.trunc S.wg _,S.wg.trunc S.box _,S.glob.trunc FO S.box S.wg _,fun _=> .inl rfl⟩
    intro e1 xs1 hh
    cases hh
   · -- a window of a box that goes:its block is the caller's
     rename_i id off len e
     split at h
     case h_2=>cases h
     rename_i er xr hrow
     split at h
     case h_2=>cases h
     rename_i xs hxs
     split at h
     case isFalse=>cases h
     rename_i hok
     simp only[Bool.and_eq_true]at hok
     obtain⟨⟨hcx,hid⟩,hpos⟩:=hok
     have hid':h0.length≤id:=Nat.le_of_ble_eq_true hid
     have hpos':0<len:=Nat.le_of_ble_eq_true hpos
     obtain rfl:=Option.some.inj h
     have hV:VR P g w (.win id [] off len e) c:=by
      cases hv with
      |one h=>exact h
     have hlr:=hV.leaf' rfl (by simp)
     have hxl:xs.length=len:=by
      have h0:=hlr
      generalize c=c0 at h0
      simp only[Ai]at hxs
      obtain⟨ys,hys,rfl⟩:=Option.map_eq_some_iff.1 hxs
      cases h0 with
      |win0=>omega
      |win _ _ _ _ _ bt o n b cap a1 a2 a3 a4 a5 a6=>
       obtain⟨v,hv2,hi⟩:=Option.bind_eq_some_iff.1 hys
       obtain⟨r1,_⟩:=S.box.arr L a1 a2 hv2 hi
       simp;omega
     have hbt:∃e' n',g.ty[id]?=some (.row e' n'):=by
      have hlt:id<g.ty.length:=by rw[←S.box.tys];exact BJ hrow
      have hh:=S.box.has id _ _ hrow (List.getElem?_eq_getElem hlt)
      cases hty:g.ty[id]with
      |row e' n'=>exact⟨e',n',by rw[List.getElem?_eq_getElem hlt,hty]⟩
      |var t=>
       rw[hty]at hh
       cases hh with
       |scal _ hs _=>simp[V.scal]at hs
     rcases VG L S.box hlr hxs with⟨rfl,_⟩|⟨b,o,cap,cs,rfl,h4,q1,q2,ht,hsz,hb,hcap,hcb⟩
     ·simp at hxl;omega
     ·have hcb:=hcb rfl hbt
      obtain⟨w1,w2,w3,w4⟩:=S.wg.box id b h4
      obtain⟨csb,eb,fzb,c1,c2,c3,_⟩:=S.box.cells id _ b hrow h4
      have hbs:Az w b=csb.size:=by simp[Az,c1]
      have hcl:=D6 xs hcx
      have q1':=LRs.norm ht q1
      have hnl:(AP xs).length=xs.length:=by rw[BQ];simp
      have hcc:cs.length=xs.length*P.cellsOf e:=by rw[q1.1,Aw L xs e fun x hx=>HT.size L (ht x hx)]
      let gt:=g.trunc h0.length w
      let g2:G:={gt with H:=fun x=>if x=b then some l else gt.H x,ro:=fun x=>if x=b then o+cs.length else gt.ro x,lro:=fun x=>if x=b then o+cs.length else gt.lro x}
      have Et:Ext g0 w0 gt w:=E.trunc B0 S.box S.wg
      have Wt:WG gt w:=S.wg.trunc S.box _
      have Bt:BX P gt w (st.h.take h0.length):=S.box.trunc S.wg _
      have hnew:w0.heap.size≤b:=by
       rcases Nat.lt_or_ge b w0.heap.size with hlt|hge
       ·exfalso
        have hm:some b∈g0.β:=by
         refine Classical.byContradiction fun hn=> ?_
         exact(E.keep b hlt).2.2.2 hn (List.mem_of_getElem? h4)
        obtain⟨k,hk,hkk⟩:=List.mem_iff_getElem.1 hm
        obtain⟨lb,hlb⟩:=E.beta
        have:g.β[k]?=some (some b):=by rw[hlb,List.getElem?_append_left hk,List.getElem?_eq_getElem hk,hkk]
        have hki:=S.box.inj k id b this h4
        rw[←B0.len]at hk
        omega
       ·exact hge
      have hnb:some b∉gt.β:=by
       intro hm
       obtain⟨k,hk,hkk⟩:=List.mem_iff_getElem.1 hm
       have hg:gt.β[k]?=some (some b):=by rw[List.getElem?_eq_getElem hk,hkk]
       obtain⟨hkn,hg⟩:=Ba.1 hg
       have:=S.box.inj k id b hg h4
       omega
      have hro:∀x,g.ro x≤g2.ro x:=by
       intro x
       by_cases hx:x=b
       ·subst hx;rw[w2];exact Nat.zero_le _
       ·simp only[g2,if_neg hx];exact Jw S.box S.wg _ x
      have lift:∀{v:V} {c:Value},LR P g w v c→v.under h0.length=true→LR P g2 w v c:=by
       intro v c hv
       induction hv with
       |bool b=>intro _;exact .bool b
       |int k n=>intro _;exact .int k n
       |str s=>intro _;exact .str s
       |nilp=>intro _;exact .nilp
       |nilf=>intro _;exact .nilf
       |nili=>intro _;exact .nili
       |ifv te pe=>intro _;exact .ifv te pe
       |undef c hc=>intro _;exact .undef c hc
       |nil e=>intro _;exact .nil e
       |emp e f a cap hf hs=>intro _;exact .emp e f a cap hf hs
       |lst e f ys b' off' cap' cs' hf ht' hcl' hn' hc' hl' hb' hr' hcap' ih=>
        intro hu
        have hxs:Aa h0.length ys=true:=by
         by_cases hff:f= .lent
         ·subst hff;simpa [V.under]using hu
         ·exact DK _ ys (hcl' hff)
        rw[Ez,List.all_eq_true]at hxs
        refine .lst e f ys b' off' cap' cs' hf ht' hcl' hn' hc' (fun j x c h1 h2=>ih j x c h1 h2 (hxs x (List.mem_of_getElem? h1))) hb' ?_ hcap'
        by_cases hx:b'=b
        ·subst hx
         have:g.lim f b'=0:=by cases f<;>simp only[G.lim,w2,w3]
         rw[this]at hr'
         exact Nat.le_trans hr' (Nat.zero_le _)
        ·refine Nat.le_trans hr' (Nat.le_trans (VE S.box S.wg h0.length f b') ?_)
         cases f<;>simp only[G.lim,g2,if_neg hx]<;>exact Nat.le_refl _
       |win id p off len e bt o n' b cap a1 a2 a3 a4 a5 a6=>
        intro hu
        have hlt:id<h0.length:=by simpa [V.under]using hu
        exact .win id p off len e bt o n' b cap (Ba.2 ⟨hlt,a1⟩) a2 a3 (Ba.2 ⟨hlt,a4⟩) a5 a6
       |win0 id p off e bt o n' a cap a1 a2 a3 a4=>
        intro hu
        have hlt:id<h0.length:=by simpa [V.under]using hu
        exact .win0 id p off e bt o n' a cap (Ba.2 ⟨hlt,a1⟩) a2 a3 a4
       |ref id p t bt o b h1 h2 h3=>
        intro hu
        have hlt:id<h0.length:=by simpa [V.under]using hu
        exact .ref id p t bt o b (Ba.2 ⟨hlt,h1⟩) h2 (Ba.2 ⟨hlt,h3⟩)
       |rop t x b' off' cs' ht' hn' hc' hl' hb' hr' ih=>
        intro hu
        have hx:x.under h0.length=true:=by simpa [V.under]using hu
        rw[CB,List.all_eq_true]at hx
        refine .rop t x b' off' cs' ht' hn' hc' (fun j y c h1 h2=>ih j y c h1 h2 (hx y (List.mem_of_getElem? h1))) hb' ?_
        by_cases hxb:b'=b
        ·subst hxb
         rw[w3]at hr'
         exact Nat.le_trans hr' (Nat.zero_le _)
        ·refine Nat.le_trans hr' (Nat.le_trans (KO S.box S.wg h0.length b') ?_)
         simp only[g2,if_neg hxb];exact Nat.le_refl _
       |clo f vs cs' hn' hl' ih=>
        intro hu
        have hx:Aa h0.length vs=true:=by simpa [V.under]using hu
        exact .clo f vs cs' hn' fun j x c h1 h2=>ih j x c h1 h2 (I8 hx h1)
      have W2:WG g2 w:=by
       refine⟨fun x hx=> ?_,fun i x hx=> ?_,fun x=> ?_⟩
       ·obtain⟨a1,a2,a3⟩:=Wt.fresh x hx
        have:x≠b:=by rintro rfl;omega
        simp only[g2,if_neg this];exact⟨a1,a2,a3⟩
       ·obtain⟨a1,a2,a3,a4⟩:=Wt.box i x hx
        have:x≠b:=by rintro rfl;exact hnb (List.mem_of_getElem? hx)
        simp only[g2,if_neg this];exact⟨a1,a2,a3,a4⟩
       ·by_cases hx:x=b
        ·subst hx;simp only[g2,if_true];exact Nat.le_refl _
        ·simp only[g2,if_neg hx];exact Wt.le x
      have B2:BX P g2 w (st.h.take h0.length):=by
       refine⟨Bt.len,Bt.tys,Bt.inj,Bt.has,Bt.void,Bt.low,fun i y x h1 h2=> ?_⟩
       obtain⟨hlt,h1'⟩:=Ba.1 h1
       obtain⟨_,h2'⟩:=Ba.1 h2
       obtain⟨cs',e',fz',d1,d2,d3,d4⟩:=S.box.cells i y x h1' h2'
       refine⟨cs',e',fz',d1,d2,d3,fun j z hz=> ?_⟩
       obtain⟨c',k1,k2,k3⟩:=d4 j z hz
       have hu:=Ff (n:=i+1) (m:=h0.length) (by omega) y (S.box.low i y h1')
       rw[CB,List.all_eq_true]at hu
       refine⟨c',k1,lift k2 (hu z (List.mem_of_getElem? hz)),fun e1 xs1 hh=> ?_⟩
       rcases(k3 e1 xs1 hh).truncTo S.box S.wg h0.length with hl|⟨b',off',len',cap',cs2,e2,fz2,m1,m2,m3,m4,m5,m6,m7,m8⟩
       ·exact .inl hl
       ·have hne:b'≠b:=by
         rintro rfl
         have:g.H b'=some (Sum.inr (x,j)):=m2
         rw[w4]at this;cases this
        exact .inr ⟨b',off',len',cap',cs2,e2,fz2,m1,by simp only[g2,if_neg hne];exact m2,m3,m4,m5,m6,by simp only[g2,if_neg hne];exact m7,by simp only[g2,if_neg hne];exact m8⟩
      have E2:Ext g0 w0 g2 w:=by
       refine⟨Et.os,Et.tape,Et.out,Et.size,fun x hx h1 h2=> ?_,fun x hx=> ?_,Et.beta,Et.typ,Et.bsz⟩
       ·have:x≠b:=by rintro rfl;omega
        obtain⟨a1,a2,a3,a4,a5⟩:=Et.same x hx h1 h2
        exact⟨a1,by simp only[g2,if_neg this];exact a2,a3,by simp only[g2,if_neg this];exact a4,by simp only[g2,if_neg this];exact a5⟩
       ·have:x≠b:=by rintro rfl;omega
        obtain⟨a1,a2,a3,a4⟩:=Et.keep x hx
        exact⟨a1,by simp only[g2,if_neg this];exact a2,by simp only[g2,if_neg this];exact a3,a4⟩
      have Gl2:GlobOk P A g2 w:=fun i t v hi=>by
       obtain⟨h1,h2,h3,h5⟩:=S.glob i t v hi
       have hne:i≠b:=by rintro rfl;exact h3 (List.mem_of_getElem? h4)
       exact⟨lift h1 (by simp only[V.under];exact Ey _ v (FO.glob i t v hi)),by simp only[g2,if_neg hne];exact h2,fun hm=>h3 (List.mem_of_mem_take hm),h5⟩
      have hL:LR P g2 w (.lst e .own (AP xs)) (.slice (some ⟨b,o,none⟩) xs.length cap):=by
       have:=LR.lst (P:=P) (g:=g2) (w:=w) e .own (AP xs) b o cap cs (by simp) (fun x hx=>by
        rw[BQ,List.mem_map]at hx
        obtain⟨y,hy,rfl⟩:=hx
        exact(ht y hy).norm) (fun _=>hcl) q1'.1 q2 (fun j x c a1 a2=>lift (q1'.2 j x c a1 a2) (Ey _ x (EZ _ hcl x (List.mem_of_getElem? a1)))) hb
        (by simp only[G.lim,g2,if_true];exact Nat.le_refl _) (by rw[hnl];exact hcap)
       rw[hnl]at this;exact this
      refine⟨g2,E2,.lf rfl hL,fun e1 xs1 hh=> ?_,.inl ⟨e,_,rfl⟩,B2,W2,Gl2,fun _=> .inr ⟨e,_,rfl,hcl⟩⟩
      cases hh
      refine .inr ⟨b,o,xs.length,cap,csb,eb,fzb,rfl,by simp[g2],hnb,c1,by rw[←hbs];exact hcb,c3,?_,by simp[g2]⟩
      simp only[g2,if_true]
      rw[hcc,hnl]
   ·cases h
 · -- keep
   rename_i hret
   unfold QL at h
   obtain rfl:=Option.some.inj h
   refine⟨g,E,hv.norm,fun e xs hh=> ?_,.inr (En _),S.box,S.wg,S.glob,fun hh=>(hh hret).elim⟩
   have:=En v
   dsimp only at hh
   rw[hh]at this;simp[V.noOwn]at this
 · -- nul
   have key:∀{e:TypeId} {fl:Fl} {xs:List V},VR P g w (.lst e fl xs) c→fl≠ .lent→fl≠ .own→res=(.lst e fl xs,st.h.take h0.length)→∃g',Ext g0 w0 g' w∧VR P g' w res.1 c∧(∀e xs,res.1= .lst e .own xs→Own P g' w e xs.length c l)∧((∃e xs,res.1= .lst e .own xs)∨res.1.noOwn=true)∧BX P g' w res.2∧WG g' w∧GlobOk P A g' w∧
    (A.ret f≠ .keep→res.1.clean=true∨∃e xs,res.1= .lst e .own xs∧AU xs=true):=by
    intro e fl xs hV h1 h2 he
    subst he
    refine⟨g.trunc h0.length w,E.trunc B0 S.box S.wg,hV.truncTo S.box S.wg _ ?_,?_,.inr ?_,S.box.trunc S.wg _,S.wg.trunc S.box _,S.glob.trunc FO S.box S.wg _,fun _=> .inl ?_⟩
    ·cases fl<;>first|rfl|exact(h1 rfl).elim
    ·intro e1 xs1 hh;cases hh;exact(h2 rfl).elim
    ·cases fl<;>first|rfl|exact(h2 rfl).elim
    ·cases fl<;>first|rfl|exact(h1 rfl).elim
   unfold AKQ at h
   split at h
   ·have hV:=hv
    refine key (fl:= .non) ?_ (by simp) (by simp) (Option.some.inj h).symm
    cases hv with
    |one h=>exact .lf rfl (LR.non (h.leaf' rfl (by simp)))
   ·refine key (fl:= .nil) ?_ (by simp) (by simp) (Option.some.inj h).symm
    cases hv with
    |one h=>exact h
   ·refine key (fl:= .non) ?_ (by simp) (by simp) (Option.some.inj h).symm
    cases hv with
    |one h=>exact h
   ·cases h
end
end AM
end
section
namespace AM
open Go
section
variable {P:Program} {A:Ann} {O:Orc} {g g':G} {w w':World}
theorem AE3 (L:Lay P) (FO:FnOk P A) (HO:EF P A O) {st:St} {tm:Array Value} (S:SR P A g w st tm) {f:FuncId} {vs:List V} {args:Array Value} (l:Nat⊕(Nat×Nat))
 (hl:vs.length=args.size) (hv:∀(i:Nat) (v:V) (c:Value),vs[i]?=some v→args[i]?=some c→VR P g w v c) (hp:A.pure f=true) {e:TypeId} {xs:List V} {h':List V} (hr:O.call f (AB st.h vs) []=some (.lst e .own xs,h')):
 Calls P f args w fun e' w'=>∃c g',e'= .returned c∧Old g w g' w'∧WG g' w'∧g'.β=g.β∧g'.ty=g.ty∧SR P A g' w' st tm∧VR P g' w' (.lst e .own xs) c∧Own P g' w' e xs.length c l∧(∀b off len cap,c= .slice (some ⟨b,off,none⟩) len cap→w.heap.size≤b):=by
 obtain⟨hc,hcl,hfn,hpl⟩:=HO _ _ _ _ hr
 have hclean:=hcl hp
 have:=hc (g.bare w) w args l BX.bare S.wg.bare (GlobOk.bare FO S.glob) (by simp[G.bare]) (by rw[Dl];simpa using hl) (fun i v c h1 h2=>by
  rw[Dl,List.getElem?_map,Option.map_eq_some_iff]at h1
  obtain⟨y,h1,rfl⟩:=h1
  exact(hv i y c h1 h2).reify L S.box S.wg) (GU _ _)
 refine Calls.mono this fun e' w' he=> ?_
 obtain⟨c,g',rfl,E,q1,q2,q3,q4,q5,q6⟩:=he
 obtain⟨E',S'⟩:=ADf S E q5
 have hO:=q2 e xs rfl
 refine⟨c,g.back w g',rfl,SV E,S'.wg,rfl,rfl,S',q1.cleanTo (ADe E) rfl,Zd S.wg E hO,?_⟩
 intro b off len cap hcb
 rcases hO with⟨n,hn⟩|⟨b',off',len',cap',cs,e2,fz,k1,k2,_⟩
 ·rw[hn]at hcb;cases hcb
 ·rw[k1]at hcb
  simp only[Value.slice.injEq,Option.some.injEq,Addr.mk.injEq]at hcb
  obtain⟨⟨rfl,_⟩,_⟩:=hcb
  apply Nat.le_of_not_lt
  intro hb
  obtain⟨_,a2,_⟩:=E.same b' hb rfl (by simp[G.bare])
  rw[a2]at k2;cases k2
theorem KQ:∀bs:List Bool,BD (bs.map V.bool)=bs.map V.bool
 |[]=>rfl
 |b::bs=>by simp only[List.map_cons,BD,V.fl,KQ bs];rfl
theorem O0:∀bs:List Bool,AU (bs.map V.bool)=true
 |[]=>rfl
 |b::bs=>by simp only[List.map_cons,AU,O0 bs];rfl
theorem HT.bool_any {t:TypeId} {a:Bool} (h:HT P t (.bool a)) (b:Bool):HT P t (.bool b):=by
 cases h with
 |scal hk hv ho=>exact .scal hk rfl (by rw[show Bd P t (.bool b)=Bd P t (.bool a)from by unfold Bd;cases P.underlying t with|none=>rfl|some d=>cases d<;>rfl];exact ho)
theorem AJz (L:Lay P) (O:Old g w g' w') (W:WG g' w') {e:TypeId} {bs:List Bool} {c:Value} {l:Nat⊕(Nat×Nat)} {i:Nat} (hi:i<bs.length) (v:Bool) (hV:VR P g' w' (.lst e .own (bs.map V.bool)) c) (hO:Own P g' w' e (bs.map V.bool).length c l)
 (hn:∀b off len cap,c= .slice (some ⟨b,off,none⟩) len cap→w.heap.size≤b):
 ∃b off cap,c= .slice (some ⟨b,off,none⟩) bs.length cap∧w.heap.size≤b∧(w'.cell? ⟨b,off+i,none⟩).isSome=true∧w'.frozen? ⟨b,off+i,none⟩=false∧P.cellsOf e=1∧
  Old g w g' (w'.setCells b (off+i) [.bool v])∧WG g' (w'.setCells b (off+i) [.bool v])∧VR P g' (w'.setCells b (off+i) [.bool v]) (.lst e .own ((bs.set i v).map V.bool)) c∧Own P g' (w'.setCells b (off+i) [.bool v]) e (bs.map V.bool).length c l:=by
 have hne:bs.map V.bool≠[]:=by intro h;have:=congrArg List.length h;simp at this;subst this;simp at hi
 have hlr:=hV.leaf' rfl (by simp)
 generalize hxs:bs.map V.bool=xs at hlr hne hO
 cases hlr with
 |emp=>exact(hne rfl).elim
 |lst _ _ _ b off cap cs hf ht hcl hnl hcs hl hb hro hcap=>
  subst hxs
  rw[KQ]at hnl hl
  have hx0:HT P e (.bool bs[i]):=ht _ (List.mem_map.2 ⟨_,List.getElem_mem hi,rfl⟩)
  have h1:P.cellsOf e=1:=by rw[←HT.size L hx0];rfl
  rcases hO with⟨n,hn'⟩|⟨b',off',len',cap',ca,e2,fz,k1,k2,k3,k4,k5,k6,k7,k8⟩
  ·cases hn'
  ·simp only[Value.slice.injEq,Option.some.injEq,Addr.mk.injEq,and_true]at k1
   obtain⟨⟨rfl,rfl⟩,_,rfl⟩:=k1
   have hlen:(bs.map V.bool).length=bs.length:=by simp
   rw[hlen]at hcap
   have hoff:off+i<ca.size:=by rw[h1,Nat.mul_one]at k5;omega
   obtain⟨cs2,b1,b2,b3,b4,b5,b6,b7,b8⟩:=Fj b e2 fz [.bool v] (off+i) w' ca k4 (by simp;omega)
   have hb':=hn b off _ cap rfl
   have O2:Old g w g' (w'.setCells b (off+i) [.bool v]):=by
    refine⟨b6.trans O.os,b7.trans O.tape,b8.trans O.out,by rw[b5];exact O.size,fun x hx=> ?_,O.beta,O.typ⟩
    have hne:x≠b:=by omega
    rw[b4 x hne];exact O.old x hx
   have W2:WG g' (w'.setCells b (off+i) [.bool v]):=by
    refine⟨fun x hx=>W.fresh x (by rw[b5]at hx;exact hx),fun j x hx=> ?_,W.le⟩
    rw[b5];exact W.box j x hx
   have hcell:∀j,j≠off+i→(w'.setCells b (off+i) [.bool v]).cell? ⟨b,j,none⟩=w'.cell? ⟨b,j,none⟩:=by
    intro j hj
    rw[cell_of_block b1,cell_of_block k4,b3,if_neg (by simp;omega)]
   have hcell2:(w'.setCells b (off+i) [.bool v]).cell? ⟨b,off+i,none⟩=some (.bool v):=by
    rw[cell_of_block b1,b3,if_pos (by simp)];simp
   refine⟨b,off,cap,by simp,hb',by rw[cell_of_block k4,Array.getElem?_eq_getElem hoff];rfl,k6 _ hoff,h1,O2,W2,.lf rfl ?_,.inr ⟨b,off,_,cap,cs2,e2,fz,rfl,k2,k3,b1,by rw[b2];exact k5,fun j hj=> ?_,k7,k8⟩⟩
   ·have hset:(cs.set i (.bool v)).length=cs.length:=by simp
    have hl2:((bs.set i v).map V.bool).length=bs.length:=by simp
    have:=LR.lst (P:=P) (g:=g') (w:=w'.setCells b (off+i) [.bool v]) e .own ((bs.set i v).map V.bool) b off cap (cs.set i (.bool v)) (by simp) (fun x hx=>by
     obtain⟨y,_,rfl⟩:=List.mem_map.1 hx
     exact hx0.bool_any y) (fun _=>O0 _) (by rw[KQ,hset,hnl];simp)
     (fun j c hj=>by
      rw[List.getElem?_set]at hj
      split at hj
      ·rename_i hij;subst hij
       split at hj
       ·obtain rfl:=Option.some.inj hj;exact hcell2
       ·cases hj
      ·rename_i hij
       rw[hcell _ (by omega)];exact hcs j c hj)
     (fun j x c hx hc=>by
      rw[KQ]at hx
      rw[List.getElem?_map,List.getElem?_set]at hx
      rw[List.getElem?_set]at hc
      split at hc
      ·rename_i hij
       rw[if_pos hij]at hx
       split at hc
       ·obtain rfl:=Option.some.inj hc
        rw[if_pos (by omega)]at hx
        obtain rfl:=Option.some.inj hx
        exact .bool v
       ·cases hc
      ·rename_i hij
       rw[if_neg hij]at hx
       have hold:=hl j x c (by rw[List.getElem?_map];exact hx) hc
       rw[Option.map_eq_some_iff]at hx
       obtain⟨y,_,rfl⟩:=hx
       cases hold
       exact .bool y)
     (by rw[b5];exact hb) (by rw[hset];exact hro) (by rw[hl2];exact hcap)
    rw[hl2]at this
    rw[hlen]
    exact this
   ·rw[b2]at hj
    have:=k6 j hj
    simp only[World.frozen?,k4]at this
    simp only[World.frozen?,b1];exact this
theorem NP {b b' o o':Nat} (h:b≠b') (x y:Value) (w:World):(w.setCells b o [x]).setCells b' o' [y]=(w.setCells b' o' [y]).setCells b o [x]:=by
 simp only[World.setCells,World.setCell]
 congr 1
 exact Array.ext (by simp) fun k h1 h2=>by
  simp only[Array.getElem_modify]
  by_cases e1:b'=k<;>by_cases e2:b=k<;>simp_all
theorem Tc {t e:TypeId} {b o:Nat} {c:Value} (hk:K P t= .slice e) (hc:w.cell? ⟨b,o,none⟩=some c):(Instr.loadAt t (.pointer (some ⟨b,o,none⟩))).run P w= .ok c w:=by
 have hag:=D5 (P:=P) (w:=w) hk
 simp only[Instr.loadAt,Instr.sureAddr,Sem.run_bind,Sem.run_pure,Result.andThen_ok]
 simp only[loadVar,Sem.run_bind,hag,Result.andThen_ok]
 simp[hc]
theorem TD {t e:TypeId} {b off n cap i:Nat} {k:IntKind} (hk:K P t= .slice e) (he:K P e≠ .bad) (hi:i<n):(Instr.indexAt t (.slice (some ⟨b,off,none⟩) n cap) (.int k (i:Int))).run P w= .ok (.pointer (some ⟨b,off+i*P.cellsOf e,none⟩)) w:=by
 have hu:=Df hk
 simp only[Instr.indexAt,asIntOf,Sem.run_bind,Sem.run_pure,Result.andThen_ok,Ad hu,Sem.run_ite]
 rw[if_pos ⟨by omega,by omega⟩]
 simp only[Sem.run_bind,run_sizeOf he,Result.andThen_ok,Sem.run_pure,addr_add,Int.toNat_natCast]
end
end AM
end
section
namespace AM
open Go
section
variable {P:Program} {A:Ann} {O:Orc} {g g':G} {w w':World}
theorem O3:∀{xs:List V} {bs:List Bool},J4 xs=some bs→xs=bs.map V.bool
 |[],bs,h=>by simp only[J4,Option.some.injEq]at h;subst h;rfl
 | .bool b::l,bs,h=>by
   simp only[J4,Option.map_eq_some_iff]at h
   obtain⟨l',h,rfl⟩:=h
   rw[O3 h];rfl
 | .int .. ::_,_,h| .str _::_,_,h| .agg .. ::_,_,h| .row .. ::_,_,h| .lst .. ::_,_,h| .win .. ::_,_,h| .ref .. ::_,_,h| .rop .. ::_,_,h| .nilp::_,_,h| .clo .. ::_,_,h| .nilf::_,_,h| .nili::_,_,h| .ifv::_,_,h| .tup _::_,_,h| .undef::_,_,h=>by simp[J4]at h
theorem ET {os:Array Oper} {Q:Exit→Act→World→Prop} {i:Nat} {rest:List Nat} {a:Act} {o:Oper} (ho:os[i]?=some o) (hg:o.guard=none) (h:o.wp P a w (wpOps P os Q rest) Q):wpOps P os Q (i::rest) a w:=by
 simp only[wpOps,ho]
 rw[if_pos (by simp[Region.wanted,hg])]
 exact .inl h
theorem Jz {o:Oper} {a:Act} {next:Act→World→Prop} {Q:Exit→Act→World→Prop} {c:Value} (hr:(execOp a.eval o).run P w= .ok (.value c) w') (h:next (a.put o.dst c) w'):o.wp P a w next Q:=by
 unfold Oper.wp
 rw[hr];exact h
theorem Zq {o:Oper} {a:Act} {next:Act→World→Prop} {Q:Exit→Act→World→Prop} (hd:o.dst=none) (hr:(execOp a.eval o).run P w= .ok .skip w') (h:next a w'):o.wp P a w next Q:=by
 unfold Oper.wp
 rw[hr]
 simp only[Oper.upon,hd,Act.put]
 exact h
theorem GV {a:Act} {d x:Nat} {c:Value} (h:x≠d):(a.put (some d) c).eval (.tmp x)=a.eval (.tmp x):=by
 simp only[Act.eval,Act.put]
 show(a.tmps.setIfInBounds d c).getD x undef=a.tmps.getD x undef
 simp[Array.getD_eq_getD_getElem?,Array.getElem?_setIfInBounds,Ne.symm h]
theorem KR {a:Act} {d:Nat} {c:Value} (h:d<a.tmps.size):(a.put (some d) c).eval (.tmp d)=c:=by
 simp only[Act.eval,Act.put]
 show(a.tmps.setIfInBounds d c).getD d undef=c
 simp[Array.getD_eq_getD_getElem?,Array.getElem?_setIfInBounds,h]
theorem AJ0 (L:Lay P) (FO:FnOk P A) (HO:EF P A O) {R:Type} {Sl:List Nat} {fn:FuncId} {rid n:Nat} {os:Array Oper} {k:St→Option R} {r:R} {Q:Exit→Act→World→Prop} {rest:List Nat}
 (hc:∀i o,os[i]?=some o→G6 P A Sl n fn rid i o=true):∀(is sk:List Nat) (st:St) (a:Act) (g:G) (w:World),a.tmps.size=n→SR P A g w st a.tmps→NO Sl st→
 FQ P A O fn rid os sk is st k=some r→(∀st' a' w',k st'=some r→Aft P A Sl g w a st' a' w'→wpOps P os Q rest a' w')→wpOps P os Q (is++rest) a w:=by
 intro is
 induction is with
 |nil=>intro sk st a g w hn S N h hQ;exact hQ st a w h ⟨⟨g,Ext.refl g w,S⟩,N,rfl,rfl⟩
 |cons i is ih=>
  intro sk st a g w hn S N h hQ
  simp only[FQ]at h
  simp only[List.cons_append,wpOps]
  split at h
  ·cases h
  ·rename_i o ho
   simp only[ho]
   have hco:=hc i o ho
   have run:∀{sk':List Nat} {st1:St},SR P A g w st1 a.tmps→NO Sl st1→Region.wanted o (yielded os a.tmps)=true→(op P A O fn rid i o st1 fun st=>FQ P A O fn rid os sk' is st k)=some r→
    (if Region.wanted o (yielded os a.tmps)=true then o.wp P a w (wpOps P os Q (is++rest)) Q∨(o.asks P a w∧LetsOut Q)else wpOps P os Q (is++rest) (a.put o.dst undef) w):=by
    intro sk' st1 S1 N1 hw h1
    rw[if_pos hw]
    refine .inl (AJt L FO HO (by rw[hn];exact hco) S1 N1 h1 _ Q fun st' a' w' hk A1=> ?_)
    obtain⟨⟨g',E,S'⟩,N',hs,hdf⟩:=A1
    exact ih sk' st' a' g' w' (hs.trans hn) S' N' hk fun st2 a2 w2 h2 A2=>hQ st2 a2 w2 h2 (Aft.trans ⟨g',E,A2⟩ hs hdf)
   have pass:∀{sk':List Nat} {st1:St},SR P A g w st1 a.tmps→NO Sl st1→Region.wanted o (yielded os a.tmps)=false→FQ P A O fn rid os sk' is (st1.put o.dst (.tup [])) k=some r→
    (if Region.wanted o (yielded os a.tmps)=true then o.wp P a w (wpOps P os Q (is++rest)) Q∨(o.asks P a w∧LetsOut Q)else wpOps P os Q (is++rest) (a.put o.dst undef) w):=by
    intro sk' st1 S1 N1 hw h1
    rw[hw]
    simp only[Bool.false_eq_true,if_false]
    have S2:SR P A g w (st1.put o.dst (.tup [])) (a.put o.dst undef).tmps:=
     S1.putO (fun d hd=>by rw[hn];exact Fq hco d hd) (v:= .tup []) (c:=undef) (.tup (vs:=[]) (cs:=[]) rfl rfl (by simp)) (fun _ _ _ _ hh=>by cases hh) (.inr rfl)
    exact ih sk' _ (a.put o.dst undef) g w ((Dx a o.dst undef).1.trans hn) S2 (N1.put (.inl rfl)) h1 fun st2 a2 w2 h2 A2=>
     hQ st2 a2 w2 h2 (Aft.trans ⟨g,Ext.refl g w,A2⟩ (Dx a o.dst undef).1 (Dx a o.dst undef).2)
   split at h
   ·rename_i hg
    exact run S N (by simp[Region.wanted,hg]) h
   ·rename_i j want hg
    split at h
    ·cases h
    ·rename_i d hd
     have hdn:d<a.tmps.size:=by
      rw[hn]
      obtain⟨oj,hoj,hdj⟩:=Option.bind_eq_some_iff.1 hd
      exact Fq (hc j oj hoj) d hdj
     split at h
     ·split at h
      ·rename_i hst
       have hV:=S.slot d
       rw[hst]at hV
       obtain⟨cs,hcs,_⟩:=hV.tup'
       exact pass S N (Ox hg hd (fun b hb=>by rw[hcs]at hb;cases hb)) h
      ·cases h
     ·rcases Ij h with⟨hb,h⟩|⟨hb,h⟩
      ·have hcv:a.tmps.getD d undef= .bool true:=by have:=S.slot d;rw[hb]at this;exact this.bool'
       have hw:=H8 hg hd hcv hdn
       split at h
       ·rename_i hwant
        exact run (H7 S hb) (N.lit d true) (by rw[hw,hwant];rfl) h
       ·rename_i hwant
        exact pass (H7 S hb) (N.lit d true) (by rw[hw];simp at hwant;rw[hwant];rfl) h
      ·have hcv:a.tmps.getD d undef= .bool false:=by have:=S.slot d;rw[hb]at this;exact this.bool'
       have hw:=H8 hg hd hcv hdn
       split at h
       ·rename_i hwant
        exact pass (H7 S hb) (N.lit d false) (by rw[hw,hwant];rfl) h
       ·rename_i hwant
        exact run (H7 S hb) (N.lit d false) (by rw[hw];simp at hwant;rw[hwant];rfl) h
theorem AE4 (L:Lay P) (FO:FnOk P A) (HO:EF P A O) {R:Type} {Sl:List Nat} {n:Nat} {fn:FuncId} {i5 i6:Nat} {os5 os6:Array Oper} {D:PairD} (hD:Xl os5.toList os6.toList=some D)
 (hc5:∀i o,os5[i]?=some o→G6 P A Sl n fn i5 i o=true) (hc6:∀i o,os6[i]?=some o→G6 P A Sl n fn i6 i o=true) {st:St} {a:Act} {k:St→Option R} {r:R} (hn:a.tmps.size=n) (S:SR P A g w st a.tmps) (N:NO Sl st)
 (h:OZ P A O D st k=some r) {Q5 Q:Exit→Act→World→Prop} (h5:∀a' w',wpOps P os6 Q [0,1,2,3,4] a' w'→Q5 .normal a' w') (hQ:∀st' a' w',k st'=some r→Aft P A Sl g w a st' a' w'→Q .normal a' w'):
 wpOps P os5 Q5 [2,3,4] a w:=by
 unfold Xl at hD
 split at hD
 case h_2=>cases hD
 rename_i p0 p1 o2 o3 o4 q0 q1 q2 q3 q4 hos5 hos6
 split at hD
 case h_2=>cases hD
 rename_i d2 f ar ts d3 sT bx m tS d3' d2' ho2d ho2 ho2g ho3d ho3 ho3g ho4d ho4 ho4g
 split at hD
 case h_2=>cases hD
 rename_i e0 sT' bx' m' e1 tS' e0' e2 ix hq0d hq0 hq0g hq1d hq1 hq1g hq2d hq2 hq2g
 split at hD
 case h_2=>cases hD
 rename_i e3 tS2 e1' e2' tE e3' v x hq3d hq3 hq3g hq4d hq4 hq4g har
 split at hD
 case isFalse=>cases hD
 rename_i hcond
 obtain⟨t1,t2,n1,t3,t4,t5,t6,t7,t8,t9,t10,t11,n2,n3,n4,n5,n6,n7,n8⟩:=hcond
 obtain rfl:=t1.symm
 obtain rfl:=t2.symm
 obtain rfl:=t3.symm
 obtain rfl:=t4.symm
 obtain rfl:=t5.symm
 obtain rfl:=t6.symm
 obtain rfl:=t7.symm
 obtain rfl:=t8.symm
 obtain rfl:=t9.symm
 obtain rfl:=t10.symm
 obtain rfl:=t11.symm
 obtain rfl:=Option.some.inj hD
 have g5:∀i o,os5.toList[i]?=some o→os5[i]?=some o:=fun i o ho=>by rw[←Array.getElem?_toList];exact ho
 have g6:∀i o,os6.toList[i]?=some o→os6[i]?=some o:=fun i o ho=>by rw[←Array.getElem?_toList];exact ho
 have k2:=g5 2 o2 (by rw[hos5];rfl)
 have k3:=g5 3 o3 (by rw[hos5];rfl)
 have k4:=g5 4 o4 (by rw[hos5];rfl)
 have m0:=g6 0 q0 (by rw[hos6];rfl)
 have m1:=g6 1 q1 (by rw[hos6];rfl)
 have m2:=g6 2 q2 (by rw[hos6];rfl)
 have m3:=g6 3 q3 (by rw[hos6];rfl)
 have m4:=g6 4 q4 (by rw[hos6];rfl)
 have hd2:=Fq (hc5 2 o2 k2) _ ho2d
 have hd3:=Fq (hc5 3 o3 k3) _ ho3d
 have he0:=Fq (hc6 0 q0 m0) _ hq0d
 have he1:=Fq (hc6 1 q1 m1) _ hq1d
 have he2:=Fq (hc6 2 q2 m2) _ hq2d
 have he3:=Fq (hc6 3 q3 m3) _ hq3d
 unfold OZ at h
 split at h
 case isFalse=>cases h
 rename_i hf
 simp only[Bool.and_eq_true,Bool.not_eq_true',decide_eq_true_eq]at hf
 obtain⟨⟨hp,hx⟩,hsq⟩:=hf
 obtain⟨rr,hr,h⟩:=Option.bind_eq_some_iff.1 h
 split at h
 case h_2=>cases h
 rename_i e xs id p t' kk j hr1 hbx hix
 obtain⟨bs,hbs,h⟩:=Option.bind_eq_some_iff.1 h
 obtain⟨ad,had,h⟩:=Option.bind_eq_some_iff.1 h
 split at h
 case isFalse=>cases h
 rename_i hj
 simp only[Bool.and_eq_true,decide_eq_true_eq]at hj
 obtain⟨⟨hj0,hj1⟩,hjt⟩:=hj
 obtain⟨h',hst,hfin⟩:=Option.bind_eq_some_iff.1 h
 have hj1':j.toNat<bs.length:=Nat.le_of_ble_eq_true hj1
 obtain rfl:=O3 hbs
 unfold FW at hst
 split at hst
 case h_2=>cases hst
 rename_i id2 p2 t2
 split at hst
 case isFalse=>cases hst
 rename_i ht2
 subst ht2
 split at hst
 case isFalse=>cases hst
 rename_i hok
 simp only[Bool.and_eq_true]at hok
 obtain⟨hty,hun⟩:=hok
 obtain⟨rv,rh⟩:=rr
 simp only at hr1
 subst hr1
 have hVbx:=S.slot bx
 rw[hbx]at hVbx
 generalize hcbx:a.tmps.getD bx undef=cbx at hVbx
 have hebx:a.eval (.tmp bx)=cbx:=hcbx
 cases hVbx.leaf' rfl (by simp)with
 |ref _ _ _ bt o b r1 r2 r3=>
 obtain⟨ca,_,hVF,_⟩:=Lm (g:=g) (w:=w) L had (.lf rfl (.ref id p t' bt o b r1 r2 r3))
 cases hVF.leaf' rfl (by simp)with
 |ref _ _ _ bt2 ob b2 s1 s2 s3=>
 have hF:∀w1:World,(Instr.fieldAt sT (.pointer (some ⟨b,o,none⟩)) m).run P w1= .ok (.pointer (some ⟨b2,ob,none⟩)) w1:=by
  intro w1
  obtain⟨c',h1,h2,_⟩:=Lm (g:=g) (w:=w1) L had (.lf rfl (.ref id p t' bt o b r1 r2 r3))
  cases h2.leaf' rfl (by simp)with
  |ref _ _ _ bt3 o3 b3 u1 u2 u3=>
   rw[s1]at u1;obtain rfl:=Option.some.inj u1
   rw[s2]at u2;obtain⟨rfl,_⟩:=Prod.mk.inj (Option.some.inj u2)
   rw[s3]at u3;obtain rfl:=Option.some.inj (Option.some.inj u3)
   exact h1
 have hVix:=S.slot ix
 rw[hix]at hVix
 have heix:a.eval (.tmp ix)= .int kk j:=hVix.int'
 have hcall:=AE3 L FO HO S (f:=f) (vs:=[st.ev P A (ts.getD 0 0) x]) (args:= #[a.eval x]) (.inr (b2,ob)) rfl (fun i v c h1 h2=>by
  cases i with
  |zero=>simp at h1 h2;subst h1 h2;exact S.ev _ x
  |succ i=>simp at h1) hp hr
 obtain⟨_,_,⟨ff,cc,hff,hbb⟩,_⟩:=HO _ _ _ _ hr
 have hne:=FO.name f ff hff
 have hb:(ff.name== "runtime.NumGoroutine")=false:=by simpa using hne
 have har':ar= #[x]:=by
  have:ar.toList=[x]:=har
  exact Array.ext' this
 have hinv:Inv P (a.eval (.func f)) (ar.map a.eval) w fun c w'=>∃g',Old g w g' w'∧WG g' w'∧g'.β=g.β∧g'.ty=g.ty∧SR P A g' w' st a.tmps∧VR P g' w' (.lst e .own (bs.map V.bool)) c∧Own P g' w' e (bs.map V.bool).length c (.inr (b2,ob))∧(∀b off len cap,c= .slice (some ⟨b,off,none⟩) len cap→w.heap.size≤b):=by
  have hrun:(Deferred.ofValue (.func (.func f) #[] #[]) #[a.eval x]>>= fun d=>invoke d.target d.args).run P w= .ok (.enter f #[a.eval x]) w:=by
   simp only[Deferred.ofValue,invoke,Sem.run_bind,Sem.run_pure,Result.andThen_ok,callFunc,run_program,hff,hb,hbb,Option.isNone_some,Bool.false_eq_true,if_false,Array.empty_append,Array.append_empty]
  rw[har']
  unfold Inv
  rw[show(#[x].map a.eval)= #[a.eval x]by simp,show a.eval (.func f)= .func (.func f) #[] #[]from rfl,hrun]
  refine Calls.mono hcall fun e' w' he=> ?_
  obtain⟨c,g',rfl,q⟩:=he
  exact⟨c,rfl,g',q⟩
 obtain⟨o2d,o2o,o2t,o2p,o2a,o2gg⟩:=o2
 simp only at ho2d ho2 ho2g
 subst ho2d ho2 ho2g
 refine ET k2 rfl (hinv.goal fun c w1 hh=> ?_)
 obtain⟨g1,O1,W1,hβ,hτ,S1,hV,hO,hnew⟩:=hh
 obtain⟨bn,on,cap,rfl,hbn,e1c,e1f,hc1,O2,W2,hV2,hO2⟩:=AJz L O1 W1 hj1' v hV hO hnew
 have S2:SR P A g1 (w1.setCells bn (on+j.toNat) [.bool v]) st a.tmps:=S.old O2 W2 hβ hτ
 obtain⟨hHT,hAR⟩:=Fp hty hV2
 have hb2:b2<w.heap.size:=(S.wg.box id2 b2 s3).1
 have hb2n:b2≠bn:=by omega
 have hlen2:((bs.set j.toNat v).map V.bool).length=(bs.map V.bool).length:=by simp
 obtain⟨E3,S3,q1,q2⟩:=S2.wr L (by rw[hτ];exact s1) s2 (by rw[hβ];exact s3) hHT (hAR.cells L hHT) (fun jj c e' xs' hjj hcj=>by
  have hj0:jj=0:=by
   cases jj with
   |zero=>rfl
   |succ jj=>simp[V.fl]at hjj
  subst hj0
  simp[V.fl]at hjj
  obtain⟨rfl,rfl⟩:=hjj
  simp[Value.cells]at hcj
  subst hcj
  rw[hlen2]at*
  simpa using hO2) hun hst
 have hcl:(Value.slice (some ⟨bn,on,none⟩) bs.length cap).cells.toList=[Value.slice (some ⟨bn,on,none⟩) bs.length cap]:=rfl
 rw[hcl]at E3 S3 q1 q2
 have hheap:(w1.setCells bn (on+j.toNat) [.bool v]).heap[b2]?=w1.heap[b2]?:=by
  simp only[World.setCells,World.setCell,Array.getElem?_modify,if_neg (Ne.symm hb2n)]
 have qc:(w1.cell? ⟨b2,ob,none⟩).isSome=true:=by
  have:=q1 0 (by simp)
  rw[KJ hheap]at this
  simpa using this
 have qf:w1.frozen? ⟨b2,ob,none⟩=false:=by
  have:=q2 0 (by simp)
  rw[CP hheap]at this
  simpa using this
 have hk:K P t2= .slice e:=by
  cases hHT with
  |lst hk=>exact hk
  |scal _ hv _=>simp[V.scal]at hv
 have hV1:=(Fp (P:=P) (g:=g1) (w:=w1) (t:=t2) (v:= .lst e .own (bs.map V.bool)) (c:= .slice (some ⟨bn,on,none⟩) bs.length cap) (by rw[Bc,hk];simp) hV)
 have hKe:=(L.slice t2 e hk).2
 generalize hc:Value.slice (some ⟨bn,on,none⟩) bs.length cap=c at*
 have sz:∀(b:Act) (d:Nat) (y:Value),(b.put (some d) y).tmps.size=b.tmps.size:=fun b d y=>(Dx b (some d) y).1
 have hcell:((w1.setCells b2 ob [c]).cell? ⟨b2,ob,none⟩)=some c:=by
  have:=World.cell?_setCells_in b2 [c] ob w1 (fun jj hj=>by
   have:jj=0:=by simp at hj;omega
   subst this;simpa using qc) 0 (by simp)
  simpa using this
 have hcell2:((w1.setCells b2 ob [c]).cell? ⟨bn,on+j.toNat,none⟩).isSome=true:=by
  rw[World.cell?_setCells_out b2 [c] ob w1 _ (fun h1 _=>absurd h1 (Ne.symm hb2n))];exact e1c
 have hheap2:(w1.setCells b2 ob [c]).heap[bn]?=w1.heap[bn]?:=by
  simp only[World.setCells,World.setCell,Array.getElem?_modify,if_neg hb2n]
 obtain⟨hTE,hAE⟩:=Fp (P:=P) (g:=g1) (w:=w1.setCells b2 ob [c]) hjt (VR.of_bool v)
 refine ET k3 ho3g (Jz (w':=w1) (c:= .pointer (some ⟨b2,ob,none⟩)) ?_ ?_)
 ·simp only[execOp,ho3,GV n3,hebx]
  simp[hF]
 rw[ho3d]
 refine ET k4 ho4g (Zq (w':=w1.setCells b2 ob [c]) ho4d ?_ ?_)
 ·simp only[execOp,ho4,GV n1,KR (show d3<(a.put (some d2) c).tmps.size by rw[sz,hn];exact hd3),KR (show d2<a.tmps.size by rw[hn];exact hd2)]
  have:=Hz (P:=P) (g:=g1) (w:=w1) L hV1.1 hV1.2 (b:=b2) (o:=ob) (fun jj hj=>by
   have hj0:jj=0:=by rw[←hc]at hj;simp[Value.cells]at hj;omega
   subst hj0;simpa using qc) (fun jj hj=>by
   have hj0:jj=0:=by rw[←hc]at hj;simp[Value.cells]at hj;omega
   subst hj0;simpa using qf)
  rw[hcl]at this
  simp[this]
 refine h5 _ _ ?_
 refine ET m0 hq0g (Jz (w':=w1.setCells b2 ob [c]) (c:= .pointer (some ⟨b2,ob,none⟩)) ?_ ?_)
 ·simp only[execOp,hq0,GV n4,GV n3,hebx]
  simp[hF]
 rw[hq0d]
 refine ET m1 hq1g (Jz (w':=w1.setCells b2 ob [c]) (c:=c) ?_ ?_)
 ·simp only[execOp,hq1,KR (show e0<((a.put (some d2) c).put (some d3) (.pointer (some ⟨b2,ob,none⟩))).tmps.size by rw[sz,sz,hn];exact he0)]
  simp[Tc hk hcell]
 rw[hq1d]
 refine ET m2 hq2g (Jz (w':=w1.setCells b2 ob [c]) (c:= .int kk j) ?_ ?_)
 ·simp only[execOp,hq2,GV n8,GV n7,GV n6,GV n5,heix]
  rfl
 rw[hq2d]
 have hjn:((j.toNat:Nat):Int)=j:=by omega
 refine ET m3 hq3g (Jz (w':=w1.setCells b2 ob [c]) (c:= .pointer (some ⟨bn,on+j.toNat,none⟩)) ?_ ?_)
 ·simp only[execOp,hq3,GV n2,KR (show e1<(((a.put (some d2) c).put (some d3) (.pointer (some ⟨b2,ob,none⟩))).put (some e0) (.pointer (some ⟨b2,ob,none⟩))).tmps.size by rw[sz,sz,sz,hn];exact he1),
   KR (show e2<((((a.put (some d2) c).put (some d3) (.pointer (some ⟨b2,ob,none⟩))).put (some e0) (.pointer (some ⟨b2,ob,none⟩))).put (some e1) c).tmps.size by rw[sz,sz,sz,sz,hn];exact he2)]
  have:=TD (P:=P) (w:=w1.setCells b2 ob [c]) (b:=bn) (off:=on) (n:=bs.length) (cap:=cap) (i:=j.toNat) (k:=kk) hk hKe hj1'
  rw[hjn,hc1,Nat.mul_one,hc]at this
  simp[this]
 rw[hq3d]
 refine ET m4 hq4g (Zq (w':=(w1.setCells b2 ob [c]).setCells bn (on+j.toNat) [.bool v]) hq4d ?_ ?_)
 ·simp only[execOp,hq4,KR (show e3<(((((a.put (some d2) c).put (some d3) (.pointer (some ⟨b2,ob,none⟩))).put (some e0) (.pointer (some ⟨b2,ob,none⟩))).put (some e1) c).put (some e2) (.int kk j)).tmps.size by rw[sz,sz,sz,sz,sz,hn];exact he3)]
  have:=Hz (P:=P) (g:=g1) (w:=w1.setCells b2 ob [c]) L hTE hAE (b:=bn) (o:=on+j.toNat) (fun jj hj=>by
   have hj0:jj=0:=by simp[Value.cells]at hj;omega
   subst hj0;simpa using hcell2) (fun jj hj=>by
   have hj0:jj=0:=by simp[Value.cells]at hj;omega
   subst hj0;rw[CP hheap2];simpa using e1f)
  rw[show(Value.bool v).cells.toList=[.bool v]from rfl]at this
  have hce:∀b:Act,b.eval (.const (.bool v))= .bool v:=fun _=>rfl
  rw[hce]
  simp[this]
 simp only[wpOps]
 refine hQ _ _ _ hfin ⟨⟨g1,?_,?_⟩,?_,?_,?_⟩
 ·rw[NP hb2n];exact O2.ext.trans E3
 ·rw[NP hb2n]
  have T:∀{st:St} {b:Act} {d:Nat} {y:Value},SR P A g1 ((w1.setCells bn (on+j.toNat) [.bool v]).setCells b2 ob [c]) st b.tmps→d<b.tmps.size→SR P A g1 ((w1.setCells bn (on+j.toNat) [.bool v]).setCells b2 ob [c]) (st.put (some d) .undef) (b.put (some d) y).tmps:=
   fun S hd=>S.putO (fun d' h=>by cases h;exact hd) (.dead _) (fun _ _ _ _ hh=>by cases hh) (.inr rfl)
  exact T (T (T (T (T (T S3 (by rw[hn];exact hd2)) (by rw[sz,hn];exact hd3)) (by rw[sz,sz,hn];exact he0)) (by rw[sz,sz,sz,hn];exact he1)) (by rw[sz,sz,sz,sz,hn];exact he2)) (by rw[sz,sz,sz,sz,sz,hn];exact he3)
 ·have T:∀{st:St} {d:Nat},NO Sl st→NO Sl (st.put (some d) .undef):=fun N=>N.put (.inl rfl)
  exact T (T (T (T (T (T (N.h h'))))))
 ·rw[sz,sz,sz,sz,sz,sz]
 ·simp[Act.put]
end
end AM
end
section
namespace AM
open Go
section
variable {P:Program} {A:Ann} {O:Orc} {g g':G} {w w':World}
def LoopWp (P:Program) (b:Code) (Q:Exit→Act→World→Prop) (a:Act) (w:World):Prop:=
 ∀(fr:Frame) (k:List Item) (cs:List Frame),∃e a' w',Q e a' w'∧Arrives P (lone (fr.at a (.code b:: .inLoop b::k)) cs w) fr k cs e a' w'
theorem LoopWp.wp {b:Code} {Q:Exit→Act→World→Prop} {a:Act} {w:World} (h:LoopWp P b Q a w):(Code.loop b).wp P Q a w:=by
 intro fr k cs
 obtain⟨e,a',w',hq,harr⟩:=h fr k cs
 exact⟨e,a',w',hq,.of_steps (.one step_loop) harr⟩
theorem LoopWp.step {b:Code} {Q:Exit→Act→World→Prop} {a:Act} {w:World} (h:b.wp P (Exit.then (LoopWp P b Q) Q) a w):LoopWp P b Q a w:=by
 intro fr k cs
 obtain⟨e,a₁,w₁,hq,harr⟩:=h fr (.inLoop b::k) cs
 cases e with
 |normal=>
  obtain⟨e₂,a₂,w₂,hq₂,harr₂⟩:=hq fr k cs
  exact⟨e₂,a₂,w₂,hq₂,.of_steps (Steps.trans harr (.one step_inLoop)) harr₂⟩
 |exit id=>exact⟨_,a₁,w₁,hq,.pass (x:= .inLoop b) rfl (fun _ _=> .inl (by simp)) harr⟩
 |goto l=>exact⟨_,a₁,w₁,hq,.pass (x:= .inLoop b) rfl (fun _ _=> .inl (by simp)) harr⟩
 |ret=>exact⟨_,a₁,w₁,hq,.pass (x:= .inLoop b) rfl (fun _ _=> .inl (by simp)) harr⟩
 |panic ch=>exact⟨_,a₁,w₁,hq,.pass (x:= .inLoop b) rfl (fun _ _=> .inl (by simp)) harr⟩
 |outgrown=>exact⟨_,a₁,w₁,hq,.pass (x:= .inLoop b) rfl (fun _ _=> .inl (by simp)) harr⟩
def IK (P:Program) (A:Ann) (S:List Nat) (n:Nat) (fn:FuncId):Code→Bool
 | .region id os d=>((List.range os.size).all fun i=>match os[i]? with
  |some o=>G6 P A S n fn id i o
  |none=>false)&&(!d||S9 P A fn id os)
 | .seq a b=>IK P A S n fn a&&IK P A S n fn b
 | .cond _ a b=>IK P A S n fn a&&IK P A S n fn b
 | .block _ b=>IK P A S n fn b
 | .loop b=>IK P A S n fn b
 |_=>true
 termination_by structural c=>c
def AM4:Ex→Exit
 | .normal=> .normal
 | .exit id=> .exit id
 | .ret=> .ret
def AJ1 (P:Program) (A:Ann) (fn:FuncId) (b:Code) (st:St) (r:Ex×St):Prop:=
 ∀(S:List Nat) (n:Nat) (a:Act) (g:G) (w:World),IK P A S n fn b=true→a.tmps.size=n→SR P A g w st a.tmps→NO S st→
  ∀Q:Exit→Act→World→Prop,(∀a' w',Aft P A S g w a r.2 a' w'→Q (AM4 r.1) a' w')→LoopWp P b Q a w
def KT (P:Program) (A:Ann) (O:Orc):Prop:=∀fn blk b st r,O.loop fn blk b st=some r→AJ1 P A fn b st r
theorem Old.drew (w:World) (g:G):Old g w g {w with drawn:=w.drawn+1}:=
 ⟨rfl,rfl,rfl,Nat.le_refl _,fun b hb=>⟨rfl,rfl,rfl,rfl⟩,⟨[],by simp⟩,⟨[],by simp⟩⟩
theorem NQ (L:Lay P) (FO:FnOk P A) (HO:EF P A O) (HL:KT P A O) (hm:P.follows .mixedOrders=true) {R:Type} {Sl:List Nat} {n:Nat} {fn:FuncId} {r:R}:∀(c:Code) (blk:Nat) (st:St) (a:Act) (g:G) (w:World) (k:Ex→St→Option R),
 IK P A Sl n fn c=true→a.tmps.size=n→SR P A g w st a.tmps→NO Sl st→Cj P A O fn blk c st k=some r→
 ∀Q:Exit→Act→World→Prop,(∀e st' a' w',k e st'=some r→Aft P A Sl g w a st' a' w'→Q (AM4 e) a' w')→c.wp P Q a w:=by
 intro c
 induction c with
 |skip=>intro blk st a g w k hc hn S N h Q hQ;exact wp_skip (hQ .normal st a w h ⟨⟨g,Ext.refl g w,S⟩,N,rfl,rfl⟩)
 |region id os d=>
  intro blk st a g w k hc hn S N h Q hQ
  simp only[Cj]at h
  split at h
  ·rename_i hap
   simp only[IK,Bool.and_eq_true,List.all_eq_true,List.mem_range,Bool.or_eq_true,Bool.not_eq_true']at hc
   obtain⟨hc1,hc2⟩:=hc
   have hco:∀i o,os[i]?=some o→G6 P A Sl n fn id i o=true:=by
    intro i o ho
    have:=hc1 i (Array.getElem?_eq_some_iff.1 ho).1
    rw[ho]at this;exact this
   have S1:SR P A g w {st with s:=AM.drop (A.pre fn id) st.s} a.tmps:=S.less (E5 st _) rfl
   have N1:NO Sl {st with s:=AM.drop (A.pre fn id) st.s}:=N.less (E5 st _)
   have back:∀{g:G} {w:World} (st':St) (a':Act) (w':World),Aft P A Sl g w a st' a' w'→Aft P A Sl g w a {st' with s:=AM.drop (A.kills fn id) st'.s} a' w':=by
    rintro g w st' a' w' ⟨⟨g',E,S'⟩,N',h1,h2⟩
    exact⟨⟨g',E,S'.less (E5 st' _) rfl⟩,N'.less (E5 st' _),h1,h2⟩
   cases d with
   |false=>exact wp_region (ADg L FO HO hco _ _ _ a g w hn S1 N1 h fun st' a' w' hk A'=>hQ .normal _ a' w' hk (back st' a' w' A'))
   |true=>
    have hreg:S9 P A fn id os=true:=by simpa using hc2
    refine wp_region_draw fun t=> ?_
    rw[hm]
    have O1:=Old.drew w g
    have S2:SR P A g {w with drawn:=w.drawn+1} {st with s:=AM.drop (A.pre fn id) st.s} a.tmps:=S1.old O1 ⟨S1.wg.fresh,S1.wg.box,S1.wg.le⟩ rfl rfl
    exact ADg L FO HO hco _ _ _ a g _ hn S2 N1 (XZ hreg hap h t) fun st' a' w' hk A'=>hQ .normal _ a' w' hk (back st' a' w' (Aft.trans ⟨g,O1.ext,A'⟩ rfl rfl))
  ·cases h
 |seq x y ihx ihy=>
  intro blk st a g w k hc hn S N h Q hQ
  simp only[IK,Bool.and_eq_true]at hc
  simp only[Cj]at h
  refine wp_seq (ihx blk st a g w _ hc.1 hn S N h _ fun e st' a' w' hk A'=> ?_)
  obtain⟨⟨g',E,S'⟩,N',h1,h2⟩:=A'
  cases e with
  |normal=>exact ihy blk st' a' g' w' k hc.2 (h1.trans hn) S' N' hk Q fun e st2 a2 w2 hk2 A2=>hQ e st2 a2 w2 hk2 (Aft.trans ⟨g',E,A2⟩ h1 h2)
  |exit j=>exact hQ (.exit j) st' a' w' hk ⟨⟨g',E,S'⟩,N',h1,h2⟩
  |ret=>exact hQ .ret st' a' w' hk ⟨⟨g',E,S'⟩,N',h1,h2⟩
 |cond x p q ihp ihq=>
  intro blk st a g w k hc hn S N h Q hQ
  simp only[IK,Bool.and_eq_true]at hc
  simp only[Cj]at h
  have hV:=S.ev 0 x
  rcases Ij h with⟨hb,h⟩|⟨hb,h⟩
  ·rw[hb]at hV
   exact wp_cond_true hV.bool' (ihp blk st a g w k hc.1 hn S N h Q hQ)
  ·rw[hb]at hV
   exact wp_cond_false hV.bool' (ihq blk st a g w k hc.2 hn S N h Q hQ)
 |block id b ih=>
  intro blk st a g w k hc hn S N h Q hQ
  simp only[IK]at hc
  simp only[Cj]at h
  refine wp_block (ih id st a g w _ hc hn S N h _ fun e st' a' w' hk A'=> ?_)
  cases e with
  |normal=>exact hQ .normal st' a' w' hk A'
  |exit j=>
   simp only[NV]at hk
   show(if j=id then Q .normal a' w' else Q (.exit j) a' w')
   split at hk
   ·rename_i hj;rw[if_pos hj];exact hQ .normal st' a' w' hk A'
   ·rename_i hj;rw[if_neg hj];exact hQ (.exit j) st' a' w' hk A'
  |ret=>exact hQ .ret st' a' w' hk A'
 |loop b ih=>
  intro blk st a g w k hc hn S N h Q hQ
  simp only[IK]at hc
  simp only[Cj,lp]at h
  obtain⟨rr,hr,hk⟩:=Option.bind_eq_some_iff.1 h
  have hless:∀i,({st with s:=AFQ (A.keep fn blk) st.s}:St).get i=st.get i∨({st with s:=AFQ (A.keep fn blk) st.s}:St).get i= .undef:=by
   intro i
   unfold AFQ
   split
   ·exact .inl rfl
   ·exact KP st st.h _ i
  exact(HL _ _ _ _ _ hr Sl n a g w hc hn (S.less hless rfl) (N.less hless) Q fun a' w' A'=>hQ rr.1 rr.2 a' w' hk A').wp
 |exit id=>intro blk st a g w k hc hn S N h Q hQ;exact wp_exit (hQ (.exit id) st a w h ⟨⟨g,Ext.refl g w,S⟩,N,rfl,rfl⟩)
 |ret=>intro blk st a g w k hc hn S N h Q hQ;exact wp_ret (hQ .ret st a w h ⟨⟨g,Ext.refl g w,S⟩,N,rfl,rfl⟩)
 |_=>intro blk st a g w k hc hn S N h;simp[Cj]at h
theorem Aft.refl {Sl:List Nat} {st:St} {a:Act} (S:SR P A g w st a.tmps) (N:NO Sl st):Aft P A Sl g w a st a w:=⟨⟨g,Ext.refl g w,S⟩,N,rfl,rfl⟩
theorem AJ2 (L:Lay P) (FO:FnOk P A) (HO:EF P A O) (HL:KT P A O) (hm:P.follows .mixedOrders=true) {fn:FuncId} {blk:Nat} {b:Code} {st:St} {r:Ex×St} (h:round P A O fn blk b st=some r):AJ1 P A fn b st r:=by
 intro Sl n a g w hc hn S N Q hQ
 refine LoopWp.step ?_
 unfold round at h
 refine NQ L FO HO HL hm b blk st a g w _ hc hn S N h _ fun e st1 a1 w1 hk A1=> ?_
 obtain⟨⟨g1,E1,S1⟩,N1,h1,h2⟩:=A1
 have next:∀{st2:St},(∃g2,Ext g w g2 w1∧SR P A g2 w1 st2 a1.tmps)→NO Sl st2→lp O fn blk b (fun e st=>some (e,st)) st2=some r→LoopWp P b Q a1 w1:=by
  rintro st2 ⟨g2,E2,S2⟩ N2 hlp
  unfold lp at hlp
  obtain⟨rr,hr,he⟩:=Option.bind_eq_some_iff.1 hlp
  obtain rfl:=Option.some.inj he
  exact HL _ _ _ _ _ hr Sl n a1 g2 w1 hc (h1.trans hn) S2 N2 Q fun a' w' A'=>hQ a' w' (Aft.trans ⟨g2,E2,A'⟩ h1 h2)
 cases e with
 |normal=>
  simp only[Xk,cut]at hk
  show LoopWp P b Q a1 w1
  split at hk
  ·exact next ⟨g1,E1,S1⟩ N1 hk
  ·rename_i l hkeep
   split at hk
   ·rename_i hu
    exact next ⟨g1.trunc st.h.length w1,E1.trunc S.box S1.box S1.wg,S1.trunc FO hu⟩ (N1.less (KP st1 _ l)) hk
   ·cases hk
  ·rename_i l hkeep
   exact next ⟨g1,E1,S1.less (KP st1 _ l) rfl⟩ (N1.less (KP st1 _ l)) hk
 |exit j=>
  obtain rfl:=Option.some.inj hk
  exact hQ a1 w1 ⟨⟨g1,E1,S1⟩,N1,h1,h2⟩
 |ret=>
  obtain rfl:=Option.some.inj hk
  exact hQ a1 w1 ⟨⟨g1,E1,S1⟩,N1,h1,h2⟩
theorem VI:∀(vs:List V) (k i:Nat),look i (TJ k vs)=if k≤i then(vs[i-k]?).getD .undef else .undef
 |[],k,i=>by simp[TJ,look]
 |v::vs,k,i=>by
  simp only[TJ,look]
  cases h:Nat.beq k i
  ·have hne:=Nat.ne_of_beq_eq_false h
   simp only[cond_false]
   rw[VI vs (k+1) i]
   by_cases h1:k+1≤i
   ·have e:i-k=(i-(k+1))+1:=by omega
    rw[if_pos h1,if_pos (by omega),e,List.getElem?_cons_succ]
   ·rw[if_neg h1,if_neg (by omega)]
  ·have:=Nat.eq_of_beq_eq_true h
   subst this
   simp
theorem L9 {i:Nat} {vs:List V} {v:V} (h:BG vs=true) (hv:vs[i]?=some v):v.noOwn=true:=by
 induction vs generalizing i with
 |nil=>simp at hv
 |cons x vs ih=>
  simp only[BG,Bool.and_eq_true]at h
  cases i with
  |zero=>simp at hv;subst hv;exact h.1
  |succ i=>exact ih h.2 (by simpa using hv)
theorem ABM {l l':List Oper} {D:PairD} (h:Xl l l'=some D):l.length=5∧l'.length=5:=by
 unfold Xl at h
 split at h
 ·exact⟨rfl,rfl⟩
 ·cases h
theorem ADl {R:Type} {fn:FuncId} {c:Code} {st:St} {k:Ex→St→Option R} {r:R} (h:chain P A O fn 0 c st k=some r):
 ∃i5 os5 i6 os6 c',c= .seq (.region i5 os5 false) (.seq (.region i6 os6 false) c')∧MC P A O fn i5 i6 os5 os6 st (fun st=>Cj P A O fn 0 c' st k)=some r:=by
 unfold chain at h
 split at h
 ·exact⟨_,_,_,_,_,rfl,h⟩
 ·rename_i hh;cases hh
 ·cases h
theorem ADm {R:Type} {fn:FuncId} {m:Nat} {c:Code} {st:St} {k:Ex→St→Option R} {r:R} (h:chain P A O fn (m+1) c st k=some r):
 ∃x y,c= .seq x y∧Cj P A O fn 0 x st (Xj (chain P A O fn m y) k)=some r:=by
 unfold chain at h
 split at h
 ·rename_i hh;cases hh
 ·rename_i hh;cases hh;exact⟨_,_,rfl,h⟩
 ·cases h
theorem OW {R:Type} {f:FuncId} {c:Code} {blk:Nat} {st:St} {k:Ex→St→Option R} {r:R} (hx:Cj P A O f blk c st k=some r):∃e st',k e st'=some r:=by
 have hb2:=Tj (P:=P) (A:=A) (O:=O) f (fun(p:Ex×St)=>k p.1 p.2) c blk st (fun e st=>some (e,st))
 simp only[Option.bind_some]at hb2
 rw[hx]at hb2
 obtain⟨p,_,hp⟩:=Option.bind_eq_some_iff.1 hb2
 exact⟨_,_,hp⟩
theorem AJ3 {R:Type} {f:FuncId} {rid:Nat} {os:Array Oper} {is sk:List Nat} {st:St} {k:St→Option R} {r:R} (hx:FQ P A O f rid os sk is st k=some r):∃st',k st'=some r:=by
 have hb2:=Xo (P:=P) (A:=A) (O:=O) f rid os k is sk st some
 simp only[Option.bind_some]at hb2
 rw[hx]at hb2
 obtain⟨p,_,hp⟩:=Option.bind_eq_some_iff.1 hb2
 exact⟨_,hp⟩
theorem ABN {R:Type} {D:PairD} {st:St} {k:St→Option R} {r:R} (h:OZ P A O D st k=some r):∃st',k st'=some r:=by
 unfold OZ at h
 split at h
 ·obtain⟨_,_,h⟩:=Option.bind_eq_some_iff.1 h
  split at h
  ·obtain⟨_,_,h⟩:=Option.bind_eq_some_iff.1 h
   obtain⟨_,_,h⟩:=Option.bind_eq_some_iff.1 h
   split at h
   ·obtain⟨_,_,h⟩:=Option.bind_eq_some_iff.1 h
    exact⟨_,h⟩
   ·cases h
  ·cases h
 ·cases h
theorem ABO {R:Type} {f:FuncId} {r:R}:∀(m:Nat) {c:Code} {st:St} {k:Ex→St→Option R},chain P A O f m c st k=some r→∃e st',k e st'=some r:=by
 intro m
 induction m with
 |zero=>
  intro c st k h
  obtain⟨_,_,_,_,_,_,h⟩:=ADl h
  unfold MC at h
  obtain⟨_,_,h⟩:=Option.bind_eq_some_iff.1 h
  obtain⟨_,h⟩:=AJ3 h
  obtain⟨_,h⟩:=ABN h
  exact OW h
 |succ m ih=>
  intro c st k h
  obtain⟨_,_,_,h⟩:=ADm h
  obtain⟨e,_,h⟩:=OW h
  cases e with
  |normal=>exact ih h
  |exit j=>exact⟨_,_,h⟩
  |ret=>exact⟨_,_,h⟩
theorem ABP {R:Type} {f:FuncId} {c:Code} {st:St} {k:Ex→St→Option R} {r:R} (h:Ko P A O f c st k=some r):∃e st',k e st'=some r:=by
 unfold Ko at h
 split at h
 ·exact OW h
 ·exact ABO _ h
theorem AE5 (L:Lay P) (FO:FnOk P A) (HO:EF P A O) (HL:KT P A O) (hm:P.follows .mixedOrders=true) {R:Type} {Sl:List Nat} {n:Nat} {fn:FuncId} {r:R}:∀(m:Nat) (c:Code) (st:St) (a:Act) (g:G) (w:World) (k:Ex→St→Option R),
 IK P A Sl n fn c=true→a.tmps.size=n→SR P A g w st a.tmps→NO Sl st→chain P A O fn m c st k=some r→
 ∀Q:Exit→Act→World→Prop,(∀e st' a' w',k e st'=some r→Aft P A Sl g w a st' a' w'→Q (AM4 e) a' w')→c.wp P Q a w:=by
 intro m
 induction m with
 |zero=>
  intro c st a g w k hc hn S N h Q hQ
  obtain⟨i5,os5,i6,os6,c',hc0,hp0⟩:=ADl h
  ·clear h
   have h:=hp0
   clear hp0
   subst hc0
   unfold MC at h
   obtain⟨D,hD,h⟩:=Option.bind_eq_some_iff.1 h
   obtain⟨z5,z6⟩:=ABM hD
   rw[Array.length_toList]at z5 z6
   simp only[IK,Bool.and_eq_true,List.all_eq_true,List.mem_range,Bool.or_eq_true,Bool.not_eq_true']at hc
   obtain⟨⟨hc5,_⟩,⟨hc6,_⟩,hc'⟩:=hc
   have hco5:∀i o,os5[i]?=some o→G6 P A Sl n fn i5 i o=true:=by
    intro i o ho
    have:=hc5 i (Array.getElem?_eq_some_iff.1 ho).1
    rw[ho]at this;exact this
   have hco6:∀i o,os6[i]?=some o→G6 P A Sl n fn i6 i o=true:=by
    intro i o ho
    have:=hc6 i (Array.getElem?_eq_some_iff.1 ho).1
    rw[ho]at this;exact this
   have S1:SR P A g w {st with s:=AM.drop (A.pre fn i5) st.s} a.tmps:=S.less (E5 st _) rfl
   have N1:NO Sl {st with s:=AM.drop (A.pre fn i5) st.s}:=N.less (E5 st _)
   refine wp_seq (wp_region ?_)
   rw[z5,show List.range 5=[0,1]++[2,3,4]from rfl]
   refine AJ0 L FO HO hco5 _ _ _ a g w hn S1 N1 h fun st1 a1 w1 hk A1=> ?_
   obtain⟨⟨g1,E1,S1'⟩,N1',hs1,hdf1⟩:=A1
   refine AE4 L FO HO hD hco5 hco6 (hs1.trans hn) S1' N1' hk (Q:=Exit.then (c'.wp P Q) Q) (fun a' w' hq=> ?_) (fun st' a' w' hk' A'=> ?_)
   ·show(Code.seq (.region i6 os6 false) c').wp P Q a' w'
    refine wp_seq (wp_region ?_)
    rw[z6];exact hq
   ·obtain⟨⟨g2,E2,S2⟩,N2,hs2,hdf2⟩:=A'
    show c'.wp P Q a' w'
    exact NQ L FO HO HL hm c' 0 _ a' g2 w' k hc' (hs2.trans (hs1.trans hn)) (S2.less (E5 st' _) rfl) (N2.less (E5 st' _)) hk' Q fun e st2 a2 w2 hk2 A2=>
     hQ e st2 a2 w2 hk2 (Aft.trans ⟨g1,E1,Aft.trans ⟨g2,E2,A2⟩ hs2 hdf2⟩ hs1 hdf1)
 |succ m ih=>
  intro c st a g w k hc hn S N h Q hQ
  obtain⟨x,y,hc0,hp0⟩:=ADm h
  ·clear h
   have h:=hp0
   clear hp0
   subst hc0
   simp only[IK,Bool.and_eq_true]at hc
   refine wp_seq (NQ L FO HO HL hm x 0 st a g w _ hc.1 hn S N h _ fun e st' a' w' hk A'=> ?_)
   obtain⟨⟨g',E,S'⟩,N',h1,h2⟩:=A'
   cases e with
   |normal=>exact ih y st' a' g' w' k hc.2 (h1.trans hn) S' N' hk Q fun e st2 a2 w2 hk2 A2=>hQ e st2 a2 w2 hk2 (Aft.trans ⟨g',E,A2⟩ h1 h2)
   |exit j=>exact hQ (.exit j) st' a' w' hk ⟨⟨g',E,S'⟩,N',h1,h2⟩
   |ret=>exact hQ .ret st' a' w' hk ⟨⟨g',E,S'⟩,N',h1,h2⟩
theorem AE6 (L:Lay P) (FO:FnOk P A) (HO:EF P A O) (HL:KT P A O) (hm:P.follows .mixedOrders=true) {R:Type} {Sl:List Nat} {n:Nat} {fn:FuncId} {r:R} (c:Code) (st:St) (a:Act) (g:G) (w:World) (k:Ex→St→Option R)
 (hc:IK P A Sl n fn c=true) (hn:a.tmps.size=n) (S:SR P A g w st a.tmps) (N:NO Sl st) (h:Ko P A O fn c st k=some r)
 (Q:Exit→Act→World→Prop) (hQ:∀e st' a' w',k e st'=some r→Aft P A Sl g w a st' a' w'→Q (AM4 e) a' w'):c.wp P Q a w:=by
 unfold Ko at h
 split at h
 ·exact NQ L FO HO HL hm c 0 st a g w k hc hn S N h Q hQ
 ·exact AE5 L FO HO HL hm _ c st a g w k hc hn S N h Q hQ
theorem AM5 (L:Lay P) (FO:FnOk P A) (HO:EF P A O) (HL:KT P A O) (hm:P.follows .mixedOrders=true) (S:FuncId→List Nat) (hS:∀f fn c,A.bad f=false→P.funcs[f]?=some fn→fn.body=some c→IK P A (S f) fn.ntmps f c=true)
 {f:FuncId} {vs h:List V} {r:V×List V} (hb:body P A O f vs h=some r):ABE P A f vs h r∧(A.pure f=true→r.1.clean=true∨∃e xs,r.1= .lst e .own xs∧AU xs=true)∧(∃fn c,P.funcs[f]?=some fn∧fn.body=some c)∧(A.ret f≠ .own→r.1.noOwn=true):=by
 unfold body at hb
 have hbd:A.bad f=false:=by
  cases hx:A.bad f with
  |false=>rfl
  |true=>rw[if_pos hx]at hb;cases hb
 rw[if_neg (by rw[hbd];exact Bool.false_ne_true)]at hb
 split at hb
 ·cases hb
 ·rename_i fn hfn
  split at hb
  ·cases hb
  ·rename_i c hc
   split at hb
   ·rename_i hle
    have fine:∀{e:Ex} {st':St},QM P A f fn h.length e st'=some r→(e= .normal∨e= .ret)∧QK P st' fn.results.toList [] (fin A f h.length st'.h)=some r:=by
     intro e st' he
     cases e with
     |normal=>exact⟨.inl rfl,he⟩
     |exit j=>cases he
     |ret=>exact⟨.inr rfl,he⟩
    have main:∀(g:G) (w:World) (args:Array Value) (l:Nat⊕(Nat×Nat)),BX P g w h→WG g w→GlobOk P A g w→vs.length=args.size→
     (∀(i:Nat) (v:V) (c:Value),vs[i]?=some v→args[i]?=some c→VR P g w v c)→BG vs=true→
     Calls P f args w fun e w'=>∃c g',e= .returned c∧Ext g w g' w'∧VR P g' w' r.1 c∧(∀e xs,r.1= .lst e .own xs→Own P g' w' e xs.length c l)∧((∃e xs,r.1= .lst e .own xs)∨r.1.noOwn=true)∧
      BX P g' w' r.2∧WG g' w'∧GlobOk P A g' w':=by
     intro g w args l B W Gl hlen hv hno
     refine calls_of_wp hfn hc ?_
     let tm:Array Value:=args++Array.replicate (fn.ntmps-args.size) undef
     have hsz:tm.size=fn.ntmps:=by simp only[tm,Array.size_append,Array.size_replicate];omega
     have hget:∀i,(⟨TJ 0 vs,h⟩:St).get i=(vs[i]?).getD .undef:=by
      intro i
      simp only[St.get]
      rw[VI];simp
     have S0:SR P A g w ⟨TJ 0 vs,h⟩ tm:=by
      refine⟨fun i=> ?_,fun i e xs hi=> ?_,fun i=> .inr ?_,B,W,Gl⟩
      ·rw[hget]
       cases hvi:vs[i]? with
       |none=>exact .dead _
       |some v=>
        have hlt:=BJ hvi
        have hia:i<args.size:=by rw[←hlen];exact hlt
        have e1:tm.getD i undef=args[i]:=by
         rw[Array.getD_eq_getD_getElem?]
         simp only[tm]
         rw[Array.getElem?_append_left hia,Array.getElem?_eq_getElem hia];rfl
        rw[e1]
        exact hv i v _ hvi (Array.getElem?_eq_getElem hia)
      ·rw[hget]at hi
       cases hvi:vs[i]? with
       |none=>rw[hvi]at hi;cases hi
       |some v=>
        rw[hvi]at hi
        have:=L9 hno hvi
        simp only[Option.getD_some]at hi
        rw[hi]at this;simp[V.noOwn]at this
      ·rw[hget]
       cases hvi:vs[i]? with
       |none=>rfl
       |some v=>exact L9 hno hvi
     have N0:NO (S f) ⟨TJ 0 vs,h⟩:=by
      intro i e xs hi
      rcases S0.nown i with⟨e',xs',hh⟩|hh
      ·have:=S0.own i e' xs' hh
       rw[hget]at hh
       cases hvi:vs[i]? with
       |none=>rw[hvi]at hh;cases hh
       |some v=>
        rw[hvi]at hh
        have:=L9 hno hvi
        simp only[Option.getD_some]at hh
        rw[hh]at this;simp[V.noOwn]at this
      ·rw[hi]at hh;simp[V.noOwn]at hh
     refine AE6 L FO HO HL hm c _ {tmps:=tm,defers:=[]} g w _ (hS f fn c hbd hfn hc) hsz S0 N0 hb _ fun e st' a' w' hk A'=> ?_
     obtain⟨⟨g',E,S'⟩,N',h1,h2⟩:=A'
     obtain⟨he,hres⟩:=fine hk
     obtain⟨cv,v,hrun,hfin,hRR,hown⟩:=Zp L S' hres
     obtain⟨g2,E2,q1,q2,q3,q4,q5,q6,_⟩:=AM3 L FO l B W E S' hRR hown hfin
     have hpost:a'.defers=[]∧∃v,(results fn a'.tmps).run P w'= .ok v w'∧∃c g',Ending.returned v= .returned c∧Ext g w g' w'∧VR P g' w' r.1 c∧(∀e xs,r.1= .lst e .own xs→Own P g' w' e xs.length c l)∧((∃e xs,r.1= .lst e .own xs)∨r.1.noOwn=true)∧
      BX P g' w' r.2∧WG g' w'∧GlobOk P A g' w':=⟨h2,cv,hrun,cv,g2,rfl,E2,q1,q2,q3,q4,q5,q6⟩
     rcases he with rfl|rfl
     ·exact hpost
     ·exact hpost
    refine⟨fun g w args l B W Gl _ hlen hv hno=>main g w args l B W Gl hlen hv hno,fun hp=> ?_,⟨fn,c,hfn,hc⟩,fun hno=> ?_⟩
    all_goals
     obtain⟨e,st',hk⟩:=ABP hb
     obtain⟨_,hres⟩:=fine hk
     obtain⟨us,_,hh⟩:=VH _ _ hres
     have hf:∃v,fin A f h.length st'.h v=some r:=by
      rcases hh with⟨v,_,hv⟩|⟨_,_,hv⟩
      ·exact⟨v,hv⟩
      ·exact⟨_,hv⟩
     obtain⟨v,hf⟩:=hf
     unfold fin at hf
    ·have hret:=FO.pure f hp
     split at hf
     ·unfold AQ at hf
      dsimp only at hf
      split at hf
      ·rename_i hok
       simp only[Bool.and_eq_true]at hok
       obtain rfl:=Option.some.inj hf
       exact .inl hok.1
      ·cases hf
     ·unfold TP at hf
      split at hf
      ·obtain rfl:=Option.some.inj hf;exact .inl rfl
      ·obtain rfl:=Option.some.inj hf;exact .inl rfl
      ·split at hf
       ·split at hf
        ·split at hf
         ·obtain rfl:=Option.some.inj hf;exact .inl rfl
         ·cases hf
        ·cases hf
       ·cases hf
      ·cases hf
     ·rename_i hk;exact(hret hk).elim
     ·unfold AKQ at hf
      split at hf
      ·obtain rfl:=Option.some.inj hf;exact .inl rfl
      ·obtain rfl:=Option.some.inj hf;exact .inl rfl
      ·obtain rfl:=Option.some.inj hf;exact .inl rfl
      ·cases hf
    ·split at hf
     ·unfold AQ at hf
      dsimp only at hf
      split at hf
      ·obtain rfl:=Option.some.inj hf
       exact En _
      ·cases hf
     ·rename_i hr;exact(hno hr).elim
     ·unfold QL at hf
      obtain rfl:=Option.some.inj hf
      exact En _
     ·unfold AKQ at hf
      split at hf
      ·obtain rfl:=Option.some.inj hf;rfl
      ·obtain rfl:=Option.some.inj hf;rfl
      ·obtain rfl:=Option.some.inj hf;rfl
      ·cases hf
   ·cases hb
theorem AM6 (L:Lay P) (FO:FnOk P A) (hm:P.follows .mixedOrders=true) (S:FuncId→List Nat) (hS:∀f fn c,A.bad f=false→P.funcs[f]?=some fn→fn.body=some c→IK P A (S f) fn.ntmps f c=true):∀k,EF P A (JE P A k)∧KT P A (JE P A k):=by
 intro k
 induction k with
 |zero=>exact⟨fun f vs h r hr=>by simp[JE,JO]at hr,fun fn blk b st r hr=>by simp[JE,Kq]at hr⟩
 |succ k ih=>
  exact⟨fun f vs h r hr=>AM5 L FO ih.1 ih.2 hm S hS hr,fun fn blk b st r hr=>AJ2 L FO ih.1 ih.2 hm hr⟩
end
end AM
end
section
namespace AM
open Go
def AT0 (P:Program) (A:Ann) (fn:FuncId) (rid i:Nat) (o:Oper):List Nat:=
 if(match o.op with
  | .move _=>Ak i (A.take fn rid)
  | .assign _=>Ak i (A.take fn rid)
  | .load _ _=>Ak i (A.take fn rid)
  | .convert _ d _=>NH P d&& !Ak i (A.muts fn rid)
  | .makeSlice _ _ _=> !Ak i (A.muts fn rid)
  | .buildSlice _ _ _=> !Ak i (A.muts fn rid)
  | .call {callee:= .builtin .append,..}=> !Ak i (A.muts fn rid)
  | .call {callee:= .value x,..}=> !NI A x&&isFn x
  |_=>false)then o.dst.toList else[]
def AOE (P:Program) (A:Ann) (fn:FuncId) (rid:Nat):Nat→List Oper→List Nat
 |_,[]=>[]
 |i,o::os=>AT0 P A fn rid i o++AOE P A fn rid (i+1) os
def ABQ (P:Program) (A:Ann) (fn:FuncId):Code→List Nat
 | .region id os _=>AOE P A fn id 0 os.toList
 | .seq a b=>ABQ P A fn a++ABQ P A fn b
 | .cond _ a b=>ABQ P A fn a++ABQ P A fn b
 | .block _ b=>ABQ P A fn b
 | .loop b=>ABQ P A fn b
 |_=>[]
 termination_by structural c=>c
def ARA (P:Program) (A:Ann) (f:FuncId):List Nat:=match P.funcs[f]? with
 |some fn=>match fn.body with
  |some c=>ABQ P A f c
  |none=>[]
 |none=>[]
def NR (P:Program) (A:Ann) (f:FuncId):Bool:=match P.funcs[f]? with
 |some fn=>match fn.body with
  |some c=>A.bad f||IK P A (ARA P A f) fn.ntmps f c
  |none=>true
 |none=>true
def OX (P:Program) (A:Ann):Bool:=(List.range P.funcs.size).all (NR P A)
theorem AE7 {P:Program} {A:Ann} (h:OX P A=true):∀f fn c,A.bad f=false→P.funcs[f]?=some fn→fn.body=some c→IK P A (ARA P A f) fn.ntmps f c=true:=by
 intro f fn c hb hf hc
 simp only[OX,List.all_eq_true,List.mem_range]at h
 have:=h f (Array.getElem?_eq_some_iff.1 hf).1
 simp only[NR,hf,hc,hb,Bool.false_or]at this
 exact this
def ADn (P:Program):Bool:=P.funcs.toList.all fun fn=> !(fn.name== "runtime.NumGoroutine")
def AJ4 (P:Program) (A:Ann):Bool:=(List.range P.funcs.size).all fun f=> !A.pure f||(match A.ret f with
 | .keep=>false
 |_=>true)
theorem Zr {P:Program} {A:Ann} (L:Lay P) (FO:FnOk P A) (hm:P.follows .mixedOrders=true) (hc:OX P A=true) {f:FuncId} {vs h:List V} {r:V×List V} (hr:JB P A f vs h=some r):ABE P A f vs h r:=by
 obtain⟨k,hk⟩:=ADy.1 hr
 exact((AM6 L FO hm (ARA P A) (AE7 hc) k).1 f vs h r hk).1
end AM
end
end Go.Proofs.YtphoocnlpnnkdaaGreatDoor
