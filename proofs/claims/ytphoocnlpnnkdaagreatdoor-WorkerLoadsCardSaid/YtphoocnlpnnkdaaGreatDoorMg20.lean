/-
  Part of the proof of a statement about the given program: an abstract machine over its code, the simulation, its functions' equations, what they compute.
-/
import Derived.Laws.MakeOwn
import Derived.Test.YtphoocnlpnnkdaaGreatDoorMg14
import Derived.Test.YtphoocnlpnnkdaaGreatDoorMg19
set_option linter.unusedVariables false
set_option linter.unusedSimpArgs false
set_option linter.unusedSectionVars false
noncomputable section
namespace Go.Proofs.YtphoocnlpnnkdaaGreatDoor
section
namespace AM
open Go
section
variable {P:Program} {A:Ann} {g g':G} {w w':World}
structure Old (g:G) (w:World) (g':G) (w':World):Prop where
 os:w'.os=w.os
 tape:w'.tape=w.tape
 out:w'.output=w.output
 size:w.heap.size≤w'.heap.size
 old:∀b,b<w.heap.size→w'.heap[b]?=w.heap[b]?∧g'.H b=g.H b∧g'.ro b=g.ro b∧g'.lro b=g.lro b
 beta:∃l,g'.β=g.β++l∧∀b,some b∈l→w.heap.size≤b
 typ:∃l,g'.ty=g.ty++l
theorem KJ {b:Nat} (h:w'.heap[b]?=w.heap[b]?) (j:Nat):w'.cell? ⟨b,j,none⟩=w.cell? ⟨b,j,none⟩:=by simp[World.cell?,h]
theorem CP {b:Nat} (h:w'.heap[b]?=w.heap[b]?) (j:Nat):w'.frozen? ⟨b,j,none⟩=w.frozen? ⟨b,j,none⟩:=by simp[World.frozen?,h]
theorem lt_of_block {b:Nat} {o:Obj} (h:w.heap[b]?=some o):b<w.heap.size:=by
 rcases Nat.lt_or_ge b w.heap.size with h'|h'
 ·exact h'
 ·rw[Array.getElem?_eq_none h']at h;cases h
theorem Old.notbeta (O:Old g w g' w') {b:Nat} (hb:b<w.heap.size) (h:some b∉g.β):some b∉g'.β:=by
 obtain⟨l,hl,hl2⟩:=O.beta
 rw[hl,List.mem_append]
 rintro (h'|h')
 ·exact h h'
 ·have:=hl2 b h';omega
theorem Old.ext (O:Old g w g' w'):Ext g w g' w':=by
 refine⟨O.os,O.tape,O.out,O.size,fun b hb h1 h2=> ?_,fun b hb=> ?_,?_,O.typ,fun b hb=>by obtain⟨a1,_⟩:=O.old b hb;simp[Az,a1]⟩
 ·obtain⟨a1,a2,a3,a4⟩:=O.old b hb
  exact⟨a1,by rw[a2,h1],O.notbeta hb h2,a3,a4⟩
 ·obtain⟨a1,a2,a3,a4⟩:=O.old b hb
  exact⟨fun j _=>KJ a1 j,by rw[a3];exact Nat.le_refl _,by rw[a4];exact Nat.le_refl _,O.notbeta hb⟩
 ·obtain⟨l,hl,_⟩:=O.beta;exact⟨l,hl⟩
theorem Old.own (O:Old g w g' w') {e:TypeId} {n:Nat} {c:Value} {l:Nat⊕(Nat×Nat)} (h:Own P g w e n c l):Own P g' w' e n c l:=by
 rcases h with h|⟨b,off,len,cap,cs,e',fz,h1,h2,h3,h4,h5,h6,h7,h8⟩
 ·exact .inl h
 ·have hb:=lt_of_block h4
  obtain⟨a1,a2,a3,a4⟩:=O.old b hb
  exact .inr ⟨b,off,len,cap,cs,e',fz,h1,by rw[a2];exact h2,O.notbeta hb h3,by rw[a1];exact h4,h5,fun j hj=>by rw[CP a1];exact h6 j hj,by rw[a3];exact h7,by rw[a3,a4];exact h8⟩
theorem Old.cells (O:Old g w g' w') (W:WG g w) {h:List V} (B:BX P g w h) (i:Nat) (v:V) (b:Nat) (hv:h[i]?=some v) (hb:g.β[i]?=some (some b)):
 ∃cs e fz,w'.heap[b]?=some (.cells cs e fz)∧v.fl.length≤cs.size∧(∀j,j<cs.size→w'.frozen? ⟨b,j,none⟩=false)∧
 (∀(j:Nat) (x:V),v.fl[j]?=some x→∃c,cs[j]?=some c∧LR P g' w' x c∧∀e xs,x= .lst e .own xs→Own P g' w' e xs.length c (.inr (b,j))):=by
 obtain⟨cs,e,fz,c1,c2,c3,c4⟩:=B.cells i v b hv hb
 obtain⟨a1,a2,a3,a4⟩:=O.old b (lt_of_block c1)
 refine⟨cs,e,fz,by rw[a1];exact c1,c2,fun j hj=>by rw[CP a1];exact c3 j hj,fun j x hx=> ?_⟩
 obtain⟨c,d1,d2,d3⟩:=c4 j x hx
 exact⟨c,d1,d2.ext O.ext W,fun e xs hx=>O.own (d3 e xs hx)⟩
theorem Old.bx (O:Old g w g' w') (W:WG g w) {h:List V} (B:BX P g w h) (h1:g'.β=g.β) (h2:g'.ty=g.ty):BX P g' w' h:=by
 refine⟨by rw[h1];exact B.len,by rw[h2];exact B.tys,by rw[h1];exact B.inj,by rw[h2];exact B.has,by rw[h1];exact B.void,B.low,fun i v b hv hb=> ?_⟩
 rw[h1]at hb
 exact O.cells W B i v b hv hb
theorem SR.old {st:St} {tm:Array Value} (S:SR P A g w st tm) (O:Old g w g' w') (W':WG g' w') (h1:g'.β=g.β) (h2:g'.ty=g.ty):SR P A g' w' st tm:=
 ⟨fun i=>(S.slot i).ext O.ext S.wg,fun i e xs h=>O.own (S.own i e xs h),S.nown,O.bx S.wg S.box h1 h2,W',S.glob.ext O.ext S.wg⟩
theorem Bl (t i:Nat) (v:V):∀s:List (Nat×V),look i (insert t v s)=if i=t then v else look i s
 |[]=>by
  simp only[insert,look]
  by_cases h:i=t
  ·subst h;simp
  ·rw[if_neg h,show Nat.beq t i=false from by rw[Bool.eq_false_iff];intro hh;exact h (Nat.eq_of_beq_eq_true hh).symm];rfl
 |(j,x)::s=>by
  simp only[insert]
  cases h1:Nat.blt t j with
  |true=>
   simp only[cond_true,look]
   by_cases h:i=t
   ·subst h;simp
   ·rw[if_neg h,show Nat.beq t i=false from by rw[Bool.eq_false_iff];intro hh;exact h (Nat.eq_of_beq_eq_true hh).symm];rfl
  |false=>
   simp only[cond_false]
   cases h2:Nat.beq j t with
   |true=>
    obtain rfl:=Nat.eq_of_beq_eq_true h2
    simp only[cond_true,look]
    by_cases h:i=j
    ·subst h;simp
    ·rw[if_neg h,show Nat.beq j i=false from by rw[Bool.eq_false_iff];intro hh;exact h (Nat.eq_of_beq_eq_true hh).symm];rfl
   |false=>
    simp only[cond_false,look]
    rw[Bl t i v s]
    by_cases h:i=t
    ·subst h;rw[h2];simp
    ·rw[if_neg h,if_neg h]
theorem ZX (tm:Array Value) (d i:Nat) (c:Value) (hd:d<tm.size):(tm.set! d c).getD i undef=if i=d then c else tm.getD i undef:=by
 simp only[Array.getD_eq_getD_getElem?,Array.set!_eq_setIfInBounds,Array.getElem?_setIfInBounds]
 by_cases h:i=d
 ·subst h;rw[if_pos rfl,if_pos rfl,if_pos hd];rfl
 ·rw[if_neg h,if_neg fun e=>h e.symm]
theorem SR.put {st:St} {tm:Array Value} (S:SR P A g w st tm) {d:Nat} {v:V} {c:Value} (hd:d<tm.size) (hv:VR P g w v c) (ho:∀e xs,v= .lst e .own xs→Own P g w e xs.length c (.inl d)) (hn:(∃e xs,v= .lst e .own xs)∨v.noOwn=true):
 SR P A g w (st.put (some d) v) (tm.set! d c):=by
 refine⟨fun i=> ?_,fun i e xs h=> ?_,fun i=> ?_,S.box,S.wg,S.glob⟩
 ·simp only[St.put,St.get]
  rw[Bl,ZX _ _ _ _ hd]
  split
  ·exact hv
  ·exact S.slot i
 ·simp only[St.put,St.get]at h
  rw[Bl]at h
  rw[ZX _ _ _ _ hd]
  split at h
  ·rename_i hi;subst hi;rw[if_pos rfl];exact ho e xs h
  ·rename_i hi;rw[if_neg hi];exact S.own i e xs h
 ·simp only[St.put,St.get]
  rw[Bl]
  split
  ·exact hn
  ·exact S.nown i
theorem SR.put_noOwn {st:St} {tm:Array Value} (S:SR P A g w st tm) {d:Nat} {v:V} {c:Value} (hd:d<tm.size) (hv:VR P g w v c) (ho:v.noOwn=true):SR P A g w (st.put (some d) v) (tm.set! d c):=
 S.put hd hv (fun e xs h=>by subst h;simp[V.noOwn]at ho) (.inr ho)
structure New (w w':World) (cs:Array Value) (e:TypeId) (fz:Nat×Nat):Prop where
 os:w'.os=w.os
 tape:w'.tape=w.tape
 out:w'.output=w.output
 size:w'.heap.size=w.heap.size+1
 old:∀b,b<w.heap.size→w'.heap[b]?=w.heap[b]?
 new:w'.heap[w.heap.size]?=some (.cells cs e fz)
theorem New.of_alloc (w:World) (cs:Array Value) (e:TypeId):New w (w.alloc (.cells cs e)) cs e (0,0):=
 ⟨rfl,rfl,rfl,by simp,fun b hb=>heap_alloc_old w _ b hb,heap_alloc_new w _⟩
theorem New.of_drew (w:World) (cs:Array Value) (e:TypeId):New w (w.drew.alloc (.cells cs e)) cs e (0,0):=
 ⟨rfl,rfl,rfl,by simp,fun b hb=>heap_alloc_old w.drew _ b hb,heap_alloc_new w.drew _⟩
def G.own (g:G) (b:Nat) (l:Option (Nat⊕(Nat×Nat))) (r:Nat):G:=
 {g with H:=fun x=>if x=b then l else g.H x,ro:=fun x=>if x=b then r else g.ro x,lro:=fun x=>if x=b then r else g.lro x}
def G.box (g:G) (b:Option Nat) (t:BT):G:={g with β:=g.β++[b],ty:=g.ty++[t]}
theorem New.old_own {cs:Array Value} {e:TypeId} {fz:Nat×Nat} (N:New w w' cs e fz) (l:Option (Nat⊕(Nat×Nat))) (r:Nat):Old g w (g.own w.heap.size l r) w':=
 ⟨N.os,N.tape,N.out,by rw[N.size];omega,fun b hb=>⟨N.old b hb,by simp[G.own,show b≠w.heap.size by omega]⟩,⟨[],by simp[G.own]⟩,⟨[],by simp[G.own]⟩⟩
theorem WG.notbox (W:WG g w) {b:Nat} (h:some b∈g.β):b<w.heap.size:=by
 obtain⟨i,hi,hb⟩:=List.mem_iff_getElem.1 h
 exact(W.box i b (by rw[List.getElem?_eq_getElem hi,hb])).1
theorem New.wg_own {cs:Array Value} {e:TypeId} {fz:Nat×Nat} (N:New w w' cs e fz) (W:WG g w) (l:Option (Nat⊕(Nat×Nat))) (r:Nat):WG (g.own w.heap.size l r) w':=by
 refine⟨fun b hb=> ?_,fun i b hb=> ?_,fun b=> ?_⟩
 ·rw[N.size]at hb
  have:=W.fresh b (by omega)
  simp only[G.own];rw[if_neg (by omega),if_neg (by omega),if_neg (by omega)];exact this
 ·obtain⟨h1,h2,h3,h4⟩:=W.box i b hb
  simp only[G.own];rw[if_neg (by omega),if_neg (by omega),if_neg (by omega),N.size];exact⟨by omega,h2,h3,h4⟩
 ·simp only[G.own];split
  ·exact Nat.le_refl _
  ·exact W.le b
theorem New.old_box {cs:Array Value} {e:TypeId} {fz:Nat×Nat} (N:New w w' cs e fz) (t:BT):Old g w (g.box (some w.heap.size) t) w':=
 ⟨N.os,N.tape,N.out,by rw[N.size];omega,fun b hb=>⟨N.old b hb,rfl,rfl,rfl⟩,⟨_,rfl,fun b hb=>by simp at hb;subst hb;exact Nat.le_refl _⟩,⟨_,rfl⟩⟩
theorem New.wg_box {cs:Array Value} {e:TypeId} {fz:Nat×Nat} (N:New w w' cs e fz) (W:WG g w) (t:BT):WG (g.box (some w.heap.size) t) w':=by
 refine⟨fun b hb=>W.fresh b (by rw[N.size]at hb;omega),fun i b hb=> ?_,W.le⟩
 simp only[G.box,List.getElem?_append]at hb
 split at hb
 ·obtain⟨h1,h2⟩:=W.box i b hb
  exact⟨by rw[N.size];omega,h2⟩
 ·have:b=w.heap.size:=by
   cases hi:i-g.β.length with
   |zero=>rw[hi]at hb;simpa using hb.symm
   |succ k=>rw[hi]at hb;simp at hb
  subst this
  obtain⟨h1,h2,h3⟩:=W.fresh w.heap.size (Nat.le_refl _)
  exact⟨by rw[N.size];omega,h2,h3,h1⟩
structure Fresh (P:Program) (g:G) (w:World) (e:TypeId) (xs:List V) (c:Value) (w':World):Prop where
 ex:∃cs e' fz cap,New w w' cs e' fz∧c= .slice (some ⟨w.heap.size,0,none⟩) xs.length cap∧xs.length≤cap∧cap*P.cellsOf e≤cs.size∧(∀j,j<cs.size→w'.frozen? ⟨w.heap.size,j,none⟩=false)∧
  LRs P g w (BD xs) (cs.toList.take (BD xs).length)
 ht:∀x∈xs,HT P e x
theorem LRs.ext {xs:List V} {cs:List Value} (h:LRs P g w xs cs) (E:Ext g w g' w') (W:WG g w):LRs P g' w' xs cs:=⟨h.1,fun j x c h1 h2=>(h.2 j x c h1 h2).ext E W⟩
theorem Fresh.own (L:Lay P) {e:TypeId} {xs:List V} {c:Value} (F:Fresh P g w e xs c w') (hcl:AU xs=true) {st:St} {tm:Array Value} (S:SR P A g w st tm) {d:Nat} (hd:d<tm.size):
 ∃g',Ext g w g' w'∧SR P A g' w' (st.put (some d) (.lst e .own xs)) (tm.set! d c):=by
 obtain⟨⟨cs,e',fz,cap,N,rfl,h1,h2,h3,h4⟩,ht⟩:=F
 have hlen:=Aw L xs e fun x hx=>HT.size L (ht x hx)
 have O:Old g w (g.own w.heap.size (some (.inl d)) (xs.length*P.cellsOf e)) w':=N.old_own _ _
 have W':=N.wg_own S.wg (some (.inl d)) (xs.length*P.cellsOf e)
 refine⟨_,O.ext,(S.old O W' rfl rfl).put hd (.lf rfl ?_) (fun e1 xs1 h=> ?_) (.inl ⟨_,_,rfl⟩)⟩
 ·have hc:∀(j:Nat) (c:Value),(cs.toList.take (BD xs).length)[j]?=some c→w'.cell? ⟨w.heap.size,0+j,none⟩=some c:=by
   intro j c hj
   rw[List.getElem?_take]at hj
   split at hj
   ·rw[Array.getElem?_toList]at hj
    rw[cell_of_block N.new,Nat.zero_add];exact hj
   ·cases hj
  have h5:=h4.ext O.ext S.wg
  exact .lst e .own xs w.heap.size 0 cap (cs.toList.take (BD xs).length) (by simp) ht (fun _=>hcl) h5.1 hc h5.2 (by rw[N.size];omega)
   (by simp only[G.lim,G.own,if_true];rw[h5.1,hlen];omega) h1
 ·cases h
  refine .inr ⟨w.heap.size,0,xs.length,cap,cs,e',fz,rfl,by simp[G.own],fun hb=> ?_,N.new,by omega,h3,by simp[G.own],by simp[G.own]⟩
  have:=S.wg.notbox hb;omega
theorem Fresh.lent (L:Lay P) {e:TypeId} {xs:List V} {c:Value} (F:Fresh P g w e xs c w') {st:St} {tm:Array Value} (S:SR P A g w st tm) {d:Nat} (hd:d<tm.size):
 ∃g',Ext g w g' w'∧SR P A g' w' (st.put (some d) (.lst e .lent xs)) (tm.set! d c):=by
 obtain⟨⟨cs,e',fz,cap,N,rfl,h1,h2,h3,h4⟩,ht⟩:=F
 have hlen:=Aw L xs e fun x hx=>HT.size L (ht x hx)
 have O:Old g w (g.own w.heap.size none (xs.length*P.cellsOf e)) w':=N.old_own _ _
 have W':=N.wg_own S.wg none (xs.length*P.cellsOf e)
 refine⟨_,O.ext,(S.old O W' rfl rfl).put hd (.lf rfl ?_) (fun e1 xs1 h=>by cases h) (.inr rfl)⟩
 have hc:∀(j:Nat) (c:Value),(cs.toList.take (BD xs).length)[j]?=some c→w'.cell? ⟨w.heap.size,0+j,none⟩=some c:=by
  intro j c hj
  rw[List.getElem?_take]at hj
  split at hj
  ·rw[Array.getElem?_toList]at hj
   rw[cell_of_block N.new,Nat.zero_add];exact hj
  ·cases hj
 have h5:=h4.ext O.ext S.wg
 exact .lst e .lent xs w.heap.size 0 cap (cs.toList.take (BD xs).length) (by simp) ht (fun h=>(h rfl).elim) h5.1 hc h5.2 (by rw[N.size];omega)
  (by simp only[G.lim,G.own,if_true];rw[h5.1,hlen];omega) h1
end
mutual
theorem Ey (n:Nat):∀v:V,v.clean=true→v.under n=true
 | .agg t fs,h=>by simp only[V.under];exact DK n fs (by simpa [V.clean]using h)
 | .tup fs,h=>by simp only[V.under];exact DK n fs (by simpa [V.clean]using h)
 | .row t fs,h=>by simp[V.clean]at h
 | .lst e f xs,h=>by cases f<;>first|rfl|(simp[V.clean]at h)
 | .bool _,_=>rfl
 | .int _ _,_=>rfl
 | .str _,_=>rfl
 | .win _ _ _ _ _,h=>by simp[V.clean]at h
 | .ref _ _ _,h=>by simp[V.clean]at h
 | .rop _ _,h=>by simp[V.clean]at h
 | .nilp,_=>rfl
 | .clo _ _,h=>by simp[V.clean]at h
 | .nilf,_=>rfl
 | .nili,_=>rfl
 | .ifv,_=>rfl
 | .undef,h=>by simp[V.clean]at h
theorem DK (n:Nat):∀vs:List V,AU vs=true→Aa n vs=true
 |[],_=>rfl
 |v::vs,h=>by
  simp only[AU,Bool.and_eq_true]at h
  simp only[Aa,Bool.and_eq_true]
  exact⟨Ey n v h.1,DK n vs h.2⟩
end
mutual
theorem CB (n:Nat):∀v:V,v.under n=v.fl.all (V.under n)
 | .agg t fs=>by simp only[V.under,V.fl];exact Ez n fs
 | .row t fs=>by simp only[V.under,V.fl];exact Ez n fs
 | .tup fs=>by simp[V.fl]
 | .lst e f xs=>by simp[V.fl]
 | .bool _=>by simp[V.fl]
 | .int _ _=>by simp[V.fl]
 | .str _=>by simp[V.fl]
 | .win _ _ _ _ _=>by simp[V.fl]
 | .ref _ _ _=>by simp[V.fl]
 | .rop _ _=>by simp[V.fl]
 | .nilp=>by simp[V.fl]
 | .clo _ _=>by simp[V.fl]
 | .nilf=>by simp[V.fl]
 | .nili=>by simp[V.fl]
 | .ifv=>by simp[V.fl]
 | .undef=>by simp[V.fl]
theorem Ez (n:Nat):∀vs:List V,Aa n vs=(BD vs).all (V.under n)
 |[]=>rfl
 |v::vs=>by simp only[Aa,BD,List.all_append];rw[CB n v,Ez n vs]
end
mutual
theorem Jj:∀v:V,v.noOwn=v.fl.all V.noOwn
 | .agg t fs=>by simp only[V.noOwn,V.fl];exact KL fs
 | .row t fs=>by simp only[V.noOwn,V.fl];exact KL fs
 | .tup fs=>by simp[V.fl]
 | .lst e f xs=>by simp[V.fl]
 | .bool _=>by simp[V.fl]
 | .int _ _=>by simp[V.fl]
 | .str _=>by simp[V.fl]
 | .win _ _ _ _ _=>by simp[V.fl]
 | .ref _ _ _=>by simp[V.fl]
 | .rop _ _=>by simp[V.fl]
 | .nilp=>by simp[V.fl]
 | .clo _ _=>by simp[V.fl]
 | .nilf=>by simp[V.fl]
 | .nili=>by simp[V.fl]
 | .ifv=>by simp[V.fl]
 | .undef=>by simp[V.fl]
theorem KL:∀vs:List V,BG vs=(BD vs).all V.noOwn
 |[]=>rfl
 |v::vs=>by simp only[BG,BD,List.all_append];rw[Jj v,KL vs]
end
mutual
theorem Ff {n m:Nat} (hnm:n≤m):∀v:V,v.under n=true→v.under m=true
 | .agg t fs,h=>by simp only[V.under]at h⊢;exact ES hnm fs h
 | .row t fs,h=>by simp only[V.under]at h⊢;exact ES hnm fs h
 | .tup fs,h=>by simp only[V.under]at h⊢;exact ES hnm fs h
 | .lst e f xs,h=>by cases f<;>first|rfl|(simp only[V.under]at h⊢;exact ES hnm xs h)
 | .bool _,_=>rfl
 | .int _ _,_=>rfl
 | .str _,_=>rfl
 | .win _ _ _ _ _,h=>by simp only[V.under,decide_eq_true_eq]at h⊢;omega
 | .ref _ _ _,h=>by simp only[V.under,decide_eq_true_eq]at h⊢;omega
 | .rop _ x,h=>by simp only[V.under]at h⊢;exact Ff hnm x h
 | .nilp,_=>rfl
 | .clo _ cs,h=>by simp only[V.under]at h⊢;exact ES hnm cs h
 | .nilf,_=>rfl
 | .nili,_=>rfl
 | .ifv,_=>rfl
 | .undef,_=>rfl
theorem ES {n m:Nat} (hnm:n≤m):∀vs:List V,Aa n vs=true→Aa m vs=true
 |[],_=>rfl
 |v::vs,h=>by
  simp only[Aa,Bool.and_eq_true]at h⊢
  exact⟨Ff hnm v h.1,ES hnm vs h.2⟩
end
section
variable {P:Program} {A:Ann} {g g':G} {w w':World}
theorem SR.newbox (L:Lay P) {st:St} {tm:Array Value} (S:SR P A g w st tm) {cs:Array Value} {e':TypeId} {fz:Nat×Nat} (N:New w w' cs e' fz) {bt:BT} {v:V} (hb:bt.has P v) (hu:v.under (st.h.length+1)=true)
 (hl:v.fl.length≤cs.size) (hfz:∀j,j<cs.size→w'.frozen? ⟨w.heap.size,j,none⟩=false) (hc:LRs P g w v.fl (cs.toList.take v.fl.length)) (hno:∀(j:Nat) e xs,v.fl[j]?≠some (.lst e .own xs)):
 Ext g w (g.box (some w.heap.size) bt) w'∧SR P A (g.box (some w.heap.size) bt) w' {st with h:=st.h++[v]} tm:=by
 have O:=N.old_box (g:=g) bt
 have W':=N.wg_box S.wg bt
 have B:=S.box
 refine⟨O.ext,fun i=>(S.slot i).ext O.ext S.wg,fun i e xs h=>O.own (S.own i e xs h),S.nown,?_,W',S.glob.ext O.ext S.wg⟩
 have e1:=B.len
 have e2:=B.tys
 have last:∀{α:Type} {l:List α} {x y:α} {i:Nat},(l++[x])[i]?=some y→(i<l.length∧l[i]?=some y)∨(i=l.length∧y=x):=by
  intro α l x y i h
  rw[List.getElem?_append]at h
  split at h
  ·exact .inl ⟨by assumption,h⟩
  ·right
   cases hi:i-l.length with
   |zero=>rw[hi]at h;simp at h;exact⟨by omega,h.symm⟩
   |succ k=>rw[hi]at h;simp at h
 refine⟨by simp[G.box,e1],by simp[G.box,e2],fun i j b hi hj=> ?_,fun i x t hi ht=> ?_,fun i x hi hn=> ?_,fun i x hi=> ?_,fun i x b hi hb'=> ?_⟩
 ·rcases last hi with⟨a1,a2⟩|⟨a1,a2⟩<;>rcases last hj with⟨b1,b2⟩|⟨b1,b2⟩
  ·exact B.inj i j b a2 b2
  ·cases b2;have:=S.wg.notbox (List.mem_of_getElem? a2);omega
  ·cases a2;have:=S.wg.notbox (List.mem_of_getElem? b2);omega
  ·omega
 ·rcases last hi with⟨a1,a2⟩|⟨a1,rfl⟩<;>rcases last ht with⟨b1,b2⟩|⟨b1,rfl⟩
  ·exact B.has i x t a2 b2
  ·omega
  ·omega
  ·exact hb
 ·rcases last hi with⟨a1,a2⟩|⟨a1,rfl⟩<;>rcases last hn with⟨b1,b2⟩|⟨b1,b2⟩
  ·exact B.void i x a2 b2
  ·omega
  ·omega
  ·cases b2
 ·rcases last hi with⟨a1,a2⟩|⟨a1,rfl⟩
  ·exact B.low i x a2
  ·rw[a1];exact hu
 ·rcases last hi with⟨a1,a2⟩|⟨a1,rfl⟩<;>rcases last hb' with⟨b1,b2⟩|⟨b1,b2⟩
  ·exact O.cells S.wg B i x b a2 b2
  ·omega
  ·omega
  ·cases b2
   refine⟨cs,e',fz,N.new,hl,hfz,fun j y hy=> ?_⟩
   have hj:j<x.fl.length:=by
    rcases Nat.lt_or_ge j x.fl.length with h'|h'
    ·exact h'
    ·rw[List.getElem?_eq_none h']at hy;cases hy
   have hcs:cs[j]?=some cs[j]:=Array.getElem?_eq_getElem (by omega)
   refine⟨cs[j],hcs,((hc.2 j y cs[j] hy (by rw[List.getElem?_take,if_pos hj,Array.getElem?_toList];exact hcs))).ext O.ext S.wg,fun e xs hh=> ?_⟩
   subst hh
   exact(hno j e xs hy).elim
theorem Lp {vs:List V} (h:BG vs=true) (j:Nat) (e:TypeId) (xs:List V):(BD vs)[j]?≠some (.lst e .own xs):=by
 intro hj
 rw[KL,List.all_eq_true]at h
 have:=h _ (List.mem_of_getElem? hj)
 simp[V.noOwn]at this
theorem Fresh.box (L:Lay P) {e:TypeId} {xs:List V} {c:Value} (F:Fresh P g w e xs c w') (hu:Aa 0 xs=true) (hno:∀(j:Nat) e ys,(BD xs)[j]?≠some (.lst e .own ys)) {st:St} {tm:Array Value} (S:SR P A g w st tm) {d:Nat} (hd:d<tm.size):
 ∃g',Ext g w g' w'∧SR P A g' w' ({st with h:=st.h++[V.row e xs]}.put (some d) (.win st.h.length [] 0 xs.length e)) (tm.set! d c):=by
 obtain⟨⟨cs,e',fz,cap,N,rfl,h1,h2,h3,h4⟩,ht⟩:=F
 have hlen:=Aw L xs e fun x hx=>HT.size L (ht x hx)
 obtain⟨E,S'⟩:=S.newbox L N (bt:= .row e xs.length) (v:= .row e xs) ⟨xs,rfl,rfl,ht⟩ (by simp only[V.under];exact ES (Nat.zero_le _) xs hu)
  (by simp only[V.fl];rw[hlen];exact Nat.le_trans (Nat.mul_le_mul_right _ h1) h2) h3 h4 hno
 refine⟨_,E,S'.put_noOwn (v:= .win st.h.length [] 0 xs.length e) hd (.lf rfl ?_) rfl⟩
 have e1:(g.box (some w.heap.size) (.row e xs.length)).ty[st.h.length]?=some (.row e xs.length):=by simp only[G.box];rw[S.box.tys,List.getElem?_append_right (Nat.le_refl _)];simp
 have e2:(g.box (some w.heap.size) (.row e xs.length)).β[st.h.length]?=some (some w.heap.size):=by simp only[G.box];rw[S.box.len,List.getElem?_append_right (Nat.le_refl _)];simp
 have:=LR.win (P:=P) (g:=g.box (some w.heap.size) (.row e xs.length)) (w:=w') st.h.length [] 0 xs.length e (.row e xs.length) 0 xs.length w.heap.size cap e1 rfl (by omega) e2 h1 (fun _ _=>by
  have e3:Az w' w.heap.size=cs.size:=by simp[Az,N.new]
  rw[e3];simpa using h2)
 simpa using this
end
end AM
end
section
namespace AM
open Go
section
variable {P:Program} {A:Ann} {g g':G} {w w':World}
theorem AJc {x:V} {c:Value} (h:AJU x c=true):LR P g w x c∧(∀n,x.under n=true)∧x.noOwn=true:=by
 unfold AJU at h
 split at h
 ·simp only[beq_iff_eq]at h;subst h;exact⟨.bool _,fun _=>rfl,rfl⟩
 ·simp only[Bool.and_eq_true,decide_eq_true_eq]at h;obtain⟨rfl,rfl⟩:=h;exact⟨.int _ _,fun _=>rfl,rfl⟩
 ·rename_i s
  have e:s.data.toList=[]:=by simpa using h
  have:=LR.str (P:=P) (g:=g) (w:=w) s
  rw[e]at this
  exact⟨this,fun _=>rfl,rfl⟩
 ·exact⟨.nilp,fun _=>rfl,rfl⟩
 ·exact⟨.nil _,fun _=>rfl,rfl⟩
 ·exact⟨.nilf,fun _=>rfl,rfl⟩
 ·exact⟨.nili,fun _=>rfl,rfl⟩
 ·refine⟨.undef _ ?_,fun _=>rfl,rfl⟩
  cases c<;>first|rfl|cases h
 ·cases h
theorem SH:∀{xs:List V} {cs:List Value},Ll xs cs=true→LRs P g w xs cs∧(∀n,xs.all (V.under n)=true)∧xs.all V.noOwn=true
 |[],[],_=>⟨⟨rfl,by simp⟩,fun _=>rfl,rfl⟩
 |x::xs,c::cs,h=>by
  simp only[Ll,Bool.and_eq_true]at h
  obtain⟨a,b,d⟩:=AJc (P:=P) (g:=g) (w:=w) h.1
  obtain⟨⟨a1,a2⟩,b',d'⟩:=SH (xs:=xs) (cs:=cs) h.2
  refine⟨⟨by simp[a1],fun j y z h1 h2=> ?_⟩,fun n=>by simp only[List.all_cons,b n,b' n];rfl,by simp only[List.all_cons,d,d'];rfl⟩
  cases j with
  |zero=>simp at h1 h2;subst h1 h2;exact a
  |succ j=>exact a2 j y z (by simpa using h1) (by simpa using h2)
 |[],_::_,h=>by simp[Ll]at h
 |_::_,[],h=>by simp[Ll]at h
def G0:G:=⟨[],[],fun _=>none,fun _=>0,fun _=>0⟩
theorem Gh (L:Lay P) {t:TypeId} (h:K P t≠ .bad):∃i z,P.info? t=some i∧i.zero=some z∧HT P t (zero P t)∧(∀g w,LRs P g w (zero P t).fl z.cells.toList)∧(∀n,(zero P t).under n=true)∧(zero P t).noOwn=true∧
 (zeroValue t).run P w= .ok z w∧z.cells.size=P.cellsOf t:=by
 obtain⟨i,z,h1,h2,h3,h4⟩:=L.zero t h
 have:=fun g w=>SH (P:=P) (g:=g) (w:=w) h4
 refine⟨i,z,h1,h2,h3,fun g w=>(this g w).1,fun n=>by rw[CB];exact(this G0 w).2.1 n,by rw[Jj];exact(this G0 w).2.2,by simp[zeroValue,typeInfo,h1,h2],?_⟩
 have:=(this G0 w).1.1
 rw[HT.size L h3]at this
 simpa using this
theorem TU (z:V) (n:Nat):∀j,(BD (List.replicate n z))[j]?=if j<n*z.fl.length then z.fl[j%z.fl.length]? else none:=by
 induction n with
 |zero=>intro j;simp[BD]
 |succ n ih=>
  intro j
  simp only[List.replicate_succ,BD]
  rw[List.getElem?_append]
  by_cases h:j<z.fl.length
  ·rw[if_pos h,if_pos (by rw[Nat.succ_mul];omega),Nat.mod_eq_of_lt h]
  ·rw[if_neg h,ih]
   have e:j%z.fl.length=(j-z.fl.length)%z.fl.length:=Nat.mod_eq_sub_mod (by omega)
   rw[e,Nat.succ_mul]
   by_cases h2:j-z.fl.length<n*z.fl.length
   ·rw[if_pos h2,if_pos (by omega)]
   ·rw[if_neg h2,if_neg (by omega)]
theorem TV (z:Array Value) (n j:Nat) (hz:0<z.size∨n=0):(madeCells z n)[j]?=if j<n then z[j%z.size]? else none:=by
 simp only[madeCells,Array.getElem?_map]
 by_cases h:j<n
 ·rw[if_pos h]
  have hz':0<z.size:=by omega
  have hm:j%z.size<z.size:=Nat.mod_lt _ hz'
  have e1:(Array.range n)[j]?=some j:=by rw[Array.getElem?_eq_getElem (by simpa using h)];simp
  rw[e1]
  simp[hm]
 ·rw[if_neg h,Array.getElem?_eq_none (by simpa using h)];rfl
theorem GK (z:V) (n:Nat):(BD (List.replicate n z)).length=n*z.fl.length:=by
 induction n with
 |zero=>simp[BD]
 |succ n ih=>simp only[List.replicate_succ,BD,List.length_append,ih,Nat.succ_mul];omega
theorem LD {z:V} {zc:Array Value} (h:LRs P g w z.fl zc.toList) (n m:Nat) (hm:n≤m) (hz:0<zc.size∨n=0):
 LRs P g w (BD (List.replicate n z)) ((madeCells zc (m*zc.size)).toList.take (BD (List.replicate n z)).length):=by
 have hs:zc.size=z.fl.length:=by have:=h.1;simpa using this
 have hle:n*zc.size≤m*zc.size:=Nat.mul_le_mul_right _ hm
 refine⟨?_,fun j x c h1 h2=> ?_⟩
 ·rw[List.length_take,GK,show(madeCells zc (m*zc.size)).toList.length=m*zc.size from by rw[Array.length_toList];exact size_madeCells _ _];rw[hs]at hle⊢;exact Nat.min_eq_left hle
 ·rw[TU]at h1
  split at h1
  ·rename_i hj
   rw[←hs]at hj h1
   rw[List.getElem?_take]at h2
   split at h2
   ·rw[Array.getElem?_toList,TV _ _ _ (by rcases hz with h'|h';exact .inl h';subst h';simp at hj),if_pos (by omega)]at h2
    exact h.2 _ x c h1 (by rw[Array.getElem?_toList];exact h2)
   ·cases h2
  ·cases h1
theorem AMh (L:Lay P) {t:TypeId} {l c v:V} {cl cc:Value} (h:mkS P t l c=some v) (hl:VR P g w l cl) (hc:VR P g w c cc):
 ∃e xs c' w',v= .lst e .own xs∧AU xs=true∧BG xs=true∧(Instr.makeSlice t cl cc).run P w= .ok c' w'∧Fresh P g w e xs c' w':=by
 unfold mkS at h
 split at h
 ·rename_i e k n k' m hk
  split at h
  ·rename_i hb
   obtain⟨b1,b2,b3⟩:=hb
   obtain rfl:=Option.some.inj h
   obtain rfl:=hl.int';obtain rfl:=hc.int'
   obtain⟨i1,i2,i3,i4⟩:=L.items t e hk
   obtain⟨i,z,z1,z2,z3,z4,z5,z6,z7,z8⟩:=Gh (w:=w) L (L.slice t e hk).2
   have hsz:i.size=P.cellsOf e:=by unfold Program.cellsOf;rw[z1];rfl
   have hby:=i3 i z1
   refine⟨e,_,_,_,rfl,?_,?_,run_make w t e i z (Df hk) z1 z2 k k' n m b1 b2 ?_ (by omega),⟨⟨_,_,_,_,New.of_alloc w _ e,by rw[List.length_replicate],?_,?_,?_,?_⟩,?_⟩⟩
   ·rw[ED,List.all_eq_true];intro x hx;rw[List.eq_of_mem_replicate hx];exact i2
   ·rw[Dk,List.all_eq_true];intro x hx;rw[List.eq_of_mem_replicate hx];exact z6
   ·have:(i.bytes:Int)*m≤65536*1048576:=by
     have a1:(i.bytes:Int)≤65536:=Int.ofNat_le.2 hby
     exact Int.mul_le_mul a1 b3 (by omega) (by omega)
    omega
   ·rw[List.length_replicate];omega
   ·rw[size_madeCells,hsz];exact Nat.le_refl _
   ·intro j hj
    have:=(New.of_alloc w (madeCells z.cells (m.toNat*i.size)) e).new
    simp only[World.frozen?,this];simp
   ·rw[hsz,←z8];exact LD (z4 g w) _ _ (by omega) (.inl (by omega))
   ·intro x hx;rw[List.eq_of_mem_replicate hx];exact z3
  ·cases h
 ·cases h
theorem ADb:∀(vs:List Value) (off k:Nat) (cs:Array Value),off+k+vs.length≤cs.size→
 ((vs.zipIdx k).foldl (fun cs (p:Value×Nat)=>cs.setIfInBounds (off+p.2) p.1) cs).size=cs.size∧
 ∀i,((vs.zipIdx k).foldl (fun cs (p:Value×Nat)=>cs.setIfInBounds (off+p.2) p.1) cs)[i]?=if off+k≤i∧i<off+k+vs.length then vs[i-(off+k)]? else cs[i]?
 |[],off,k,cs,_=>⟨rfl,fun i=>by rw[if_neg (by simp only[List.length_nil];omega)];rfl⟩
 |v::vs,off,k,cs,h=>by
  simp only[List.length_cons]at h
  simp only[List.zipIdx_cons,List.foldl_cons]
  obtain⟨a,b⟩:=ADb vs off (k+1) (cs.setIfInBounds (off+k) v) (by simp;omega)
  refine⟨by rw[a];simp,fun i=> ?_⟩
  rw[b]
  simp only[List.length_cons]
  by_cases h1:off+(k+1)≤i∧i<off+(k+1)+vs.length
  ·rw[if_pos h1,if_pos (by omega),show i-(off+k)=(i-(off+(k+1)))+1 by omega,List.getElem?_cons_succ]
  ·rw[if_neg h1]
   by_cases h2:i=off+k
   ·subst h2
    rw[if_pos (by omega),Nat.sub_self,List.getElem?_cons_zero,Array.getElem?_setIfInBounds,if_pos rfl,if_pos (by omega)]
   ·rw[if_neg (by omega),Array.getElem?_setIfInBounds,if_neg (fun h=>h2 h.symm)]
theorem AEe (place:Nat→Option (Nat×Nat)) (cs:Array Value) (i:Nat) (v:Value) (ps:List (Nat×Value)) (off size:Nat) (h:place i=some (off,size)) (hv:v.cells.size=size) (hl:off+size≤cs.size):
 ∃cs':Array Value,Instr.fill place cs ((i,v)::ps)=Instr.fill place cs' ps∧cs'.size=cs.size∧∀k,cs'[k]?=if off≤k∧k<off+size then v.cells[k-off]? else cs[k]?:=by
 obtain⟨a,b⟩:=ADb v.cells.toList off 0 cs (by simp;omega)
 refine⟨_,?_,a,fun k=> ?_⟩
 ·simp only[Instr.fill,h]
  rw[if_neg (by simp;omega),←Array.foldl_toList,Array.toList_zipIdx]
 ·rw[b,Array.length_toList,hv,Array.getElem?_toList];simp
inductive PR (P:Program) (g:G) (w:World):List (Nat×V)→List (Nat×Value)→Prop where
 |nil:PR P g w [] []
 |cons {i:Nat} {v:V} {c:Value} {ps:List (Nat×V)} {qs:List (Nat×Value)}:VR P g w v c→PR P g w ps qs→PR P g w ((i,v)::ps) ((i,c)::qs)
theorem AR.cells (L:Lay P) {t:TypeId} {v:V} {c:Value} (ht:HT P t v) (h:AR P g w v c):LRs P g w v.fl c.cells.toList:=by
 cases h with
 |agg ht' hn hl=>exact⟨hn,hl⟩
 |leaf hv hl=>
  have hc:c.cells= #[c]:=by cases hl<;>first|rfl|exact Fe (by assumption)
  have hf:v.fl=[v]:=by cases v<;>first|rfl|(simp[V.leafy]at hv)
  rw[hc,hf]
  refine⟨rfl,fun j x y h1 h2=> ?_⟩
  cases j with
  |zero=>simp at h1 h2;subst h1 h2;exact hl
  |succ j=>simp at h1
theorem SI (L:Lay P) (ty:Nat→Option TypeId) (place:Nat→Option (Nat×Nat)) (off:Nat→Nat):∀{ps:List (Nat×V)} {qs:List (Nat×Value)} {xs ys:List V} {cs:Array Value},
 CY P ty xs ps=some ys→PR P g w ps qs→(∀i t,i<xs.length→ty i=some t→place i=some (off i,P.cellsOf t))→(∀i,i<xs.length→off i=(BD (xs.take i)).length)→
 (∀(i:Nat) (x:V) (t:TypeId),xs[i]?=some x→ty i=some t→HT P t x)→LRs P g w (BD xs) cs.toList→BG xs=true→
 ∃cs',Instr.fill place cs qs=some cs'∧ys.length=xs.length∧(∀(i:Nat) (x:V) (t:TypeId),ys[i]?=some x→ty i=some t→HT P t x)∧LRs P g w (BD ys) cs'.toList∧BG ys=true:=by
 intro ps
 induction ps with
 |nil=>
  intro qs xs ys cs h hp h1 h2 h3 h4 h5
  cases hp
  simp only[CY,Option.some.injEq]at h
  subst h
  exact⟨cs,rfl,rfl,h3,h4,h5⟩
 |cons p ps ih=>
  intro qs xs ys cs h hp h1 h2 h3 h4 h5
  cases hp with
  |cons hv hp=>
   rename_i i v c qs
   simp only[CY]at h
   split at h
   ·rename_i t ht
    split at h
    ·rename_i hc
     simp only[Bool.and_eq_true,decide_eq_true_eq]at hc
     obtain⟨hi,hok⟩:=hc
     obtain⟨htv,hav⟩:=Fp hok hv
     obtain⟨hav',hno,htv'⟩:=AA4 htv hav
     have hx:xs[i]?=some xs[i]:=List.getElem?_eq_getElem hi
     have htx:=h3 i _ t hx ht
     have hsz:(cp P t v).fl.length=xs[i].fl.length:=by rw[HT.size L htv',HT.size L htx]
     have hcv:=hav'.cells L htv'
     have hcs:c.cells.size=P.cellsOf t:=by have:=hcv.1;rw[HT.size L htv']at this;simpa using this
     have hoi:=h2 i hi
     have hle:off i+P.cellsOf t≤cs.size:=by
      have e1:cs.size=(BD xs).length:=by have:=h4.1;simpa using this
      have e2:(BD xs).length=(BD (xs.take i)).length+xs[i].fl.length+(BD (xs.drop (i+1))).length:=by
       conv=>lhs;rw[←List.take_append_drop i xs,Dj,List.drop_eq_getElem_cons hi]
       simp only[BD,List.length_append];omega
      rw[HT.size L htx]at e2;omega
     obtain⟨cs',f1,f2,f3⟩:=AEe place cs i c qs (off i) (P.cellsOf t) (h1 i t hi ht) hcs hle
     have hset:=Mc xs i _ (cp P t v) hx hsz
     rw[←hoi]at hset
     have hLR:LRs P g w (BD (xs.set i (cp P t v))) cs'.toList:=by
      refine⟨?_,fun j x y e1 e2=> ?_⟩
      ·rw[Array.length_toList,f2]
       have e1:cs.size=(BD xs).length:=by have:=h4.1;simpa using this
       rw[e1]
       conv=>lhs;rw[←List.take_append_drop i xs,Dj,List.drop_eq_getElem_cons hi]
       rw[List.set_eq_take_append_cons_drop,if_pos hi,Dj]
       simp only[BD,List.length_append,hsz]
      ·rw[hset]at e1
       rw[Array.getElem?_toList,f3]at e2
       rw[HT.size L htx]at e1
       by_cases hk:off i≤j∧j<off i+P.cellsOf t
       ·rw[if_pos hk]at e1 e2
        exact hcv.2 _ x y e1 (by rw[Array.getElem?_toList];exact e2)
       ·rw[if_neg hk]at e1 e2
        exact h4.2 j x y e1 (by rw[Array.getElem?_toList];exact e2)
     obtain⟨cs'',r1,r2,r3,r4,r5⟩:=ih (xs:=xs.set i (cp P t v)) (cs:=cs') h hp (fun k t' hk=>h1 k t' (by simpa using hk))
      (fun k hk=>by
       rw[h2 k (by simpa using hk),List.take_set]
       by_cases hki:i<(xs.take k).length
       ·have:=Mc (xs.take k) i xs[i] (cp P t v) (by rw[List.getElem?_take];simp at hki;rw[if_pos (by omega)];exact hx) hsz
        rw[List.set_eq_take_append_cons_drop,if_pos hki,Dj]
        conv=>lhs;rw[←List.take_append_drop i (xs.take k),Dj,List.drop_eq_getElem_cons hki]
        simp only[BD,List.length_append,hsz,List.getElem_take]
       ·rw[List.set_eq_of_length_le (by omega)])
      (fun k x t' hx' ht'=>by
       rw[List.getElem?_set]at hx'
       split at hx'
       ·rename_i hik
        subst hik
        obtain rfl:cp P t v=x:=by simpa [hi]using hx'
        rw[ht]at ht';cases ht'
        exact htv'
       ·exact h3 k x t' hx' ht')
      hLR (by
       rw[Dk,List.all_eq_true]at h5⊢
       intro y hy
       rcases List.mem_or_eq_of_mem_set hy with h'|rfl
       ·exact h5 y h'
       ·exact hno)
     exact⟨cs'',by rw[f1];exact r1,by rw[r2];simp,r3,r4,r5⟩
    ·cases h
   ·cases h
end
end AM
end
section
namespace AM
open Go
section
variable {P:Program} {A:Ann} {g g':G} {w w':World}
theorem LG {α β:Type} (f:α→Sem β) (r:α→β):∀xs:List α,(∀x∈xs,(f x).run P w= .ok (r x) w)→(xs.mapM f).run P w= .ok (xs.map r) w
 |[],_=>by simp
 |x::xs,h=>by
  simp only[List.mapM_cons,Sem.run_bind,h x (by simp),Result.andThen_ok,LG f r xs fun y hy=>h y (by simp[hy]),Sem.run_pure,List.map_cons]
theorem Jk {α β:Type} (f:α→Sem β) (r:α→β) (xs:Array α) (h:∀x∈xs.toList,(f x).run P w= .ok (r x) w):(xs.mapM f).run P w= .ok (xs.map r) w:=by
 rw[Array.mapM_eq_mapM_toList]
 simp only[map_eq_pure_bind,Sem.run_bind,LG f r xs.toList h,Result.andThen_ok,Sem.run_pure]
 congr 1
 apply Array.ext'
 simp
theorem AMi (L:Lay P) {t:TypeId} {ps:List (Nat×V)} {qs:List (Nat×Value)} {v:V} (h:bld P t ps=some v) (hp:PR P g w ps qs):
 ∃c,(Instr.build t qs.toArray).run P w= .ok c w∧VR P g w v c∧v.noOwn=true:=by
 unfold bld at h
 split at h
 ·rename_i u fs u' zs hk hz
  obtain⟨ys,hys,rfl⟩:=Option.map_eq_some_iff.1 h
  have hKt:K P t≠ .bad:=by rw[hk];simp
  obtain⟨i,z,z1,z2,z3,z4,z5,z6,z7,z8⟩:=Gh (w:=w) L hKt
  have hz4:=z4 g w
  rw[hz]at z3 z6 hz4
  obtain⟨F,hF,rfl,hu⟩:=FN hk
  cases z3 with
  |scal hk' hv' _=>simp[V.scal]at hv'
  |array hk'=>rw[hk]at hk';cases hk'
  |struct hk' hl H=>
   rw[hk]at hk';cases hk'
   have hlt:=Fh hKt
   have hfill:=SI L (fun i=>(F.toList.map (·.type))[i]?) (fun i=>(F.map fun f=>(f.offset,P.cellsOf f.type))[i]?) (fun i=>((F.toList.take i).map fun g=>P.cellsOf g.type).sum)
    hys hp
    (fun i t' hi ht'=>by
     rw[List.getElem?_map,Option.map_eq_some_iff]at ht'
     obtain⟨f,hf,rfl⟩:=ht'
     rw[Array.getElem?_toList]at hf
     rw[Array.getElem?_map,hf]
     simp only[Option.map_some,Option.some.injEq,Prod.mk.injEq,and_true]
     exact L.offs t F hF hlt i f hf)
    (fun i hi=>by
     rw[JD zs (F.toList.map (·.type)) i hl fun i ft v h1 h2=>HT.size L (H i ft v h1 h2),←List.map_take,List.map_map];rfl)
    (fun i x t' hx ht'=>H i t' x ht' hx) (by simpa [V.fl]using hz4) (by simpa [V.noOwn]using z6)
   obtain⟨cs',f1,f2,f3,f4,f5⟩:=hfill
   refine⟨.agg cs',?_,.val ?_,by simpa [V.noOwn]using f5⟩
   ·simp only[Instr.build,Sem.run_bind,z7,Result.andThen_ok,Ad hF]
    rw[Jk _ (fun f=>(f.offset,P.cellsOf f.type)) F fun f hf=>by
     have:K P f.type≠ .bad:=L.fields t _ _ hk f.type (List.mem_map.2 ⟨f,hf,rfl⟩)
     simp only[Sem.run_bind,run_sizeOf this,Result.andThen_ok,Sem.run_pure]]
    simp only[Result.andThen_ok,List.toList_toArray,f1,Sem.run_pure]
   ·have:=AR.agg (P:=P) (g:=g) (w:=w) (t:=t) (u:=_) (fs:=ys) (cs:=cs'.toList) (.struct hk (by rw[f2,hl]) fun i ft v h1 h2=>f3 i v ft h2 h1) f4.1 f4.2
    simpa using this
 ·rename_i u n e u' zs hk hz
  obtain⟨ys,hys,rfl⟩:=Option.map_eq_some_iff.1 h
  have hKt:K P t≠ .bad:=by rw[hk];simp
  obtain⟨i,z,z1,z2,z3,z4,z5,z6,z7,z8⟩:=Gh (w:=w) L hKt
  have hz4:=z4 g w
  rw[hz]at z3 z6 hz4
  obtain⟨hF,hu⟩:=FM hk
  cases z3 with
  |scal hk' hv' _=>simp[V.scal]at hv'
  |struct hk'=>rw[hk]at hk';cases hk'
  |array hk' hl H=>
   rw[hk]at hk';cases hk'
   have hfill:=SI L (fun _=>some e) (fun i=>some (i*P.cellsOf e,P.cellsOf e)) (fun i=>i*P.cellsOf e) hys hp
    (fun i t' hi ht'=>by cases ht';rfl)
    (fun i hi=>by rw[C9 L zs e i (by omega) fun v hv=>HT.size L (H v hv)])
    (fun i x t' hx ht'=>by cases ht';exact H x (List.mem_of_getElem? hx)) (by simpa [V.fl]using hz4) (by simpa [V.noOwn]using z6)
   obtain⟨cs',f1,f2,f3,f4,f5⟩:=hfill
   refine⟨.agg cs',?_,.val ?_,by simpa [V.noOwn]using f5⟩
   ·simp only[Instr.build,Sem.run_bind,z7,Result.andThen_ok,Ad hF,run_sizeOf (L.array _ _ _ _ hk).2,List.toList_toArray,f1,Sem.run_pure]
   ·have:=AR.agg (P:=P) (g:=g) (w:=w) (t:=t) (u:=_) (fs:=ys) (cs:=cs'.toList) (.array hk (by rw[f2,hl]) fun x hx=>by
     obtain⟨i,hi,rfl⟩:=List.mem_iff_getElem.1 hx
     exact f3 i _ e (List.getElem?_eq_getElem hi) rfl) f4.1 f4.2
    simpa using this
 ·cases h
theorem LR.norm {v:V} {c:Value} (hv:v.leafy=true) (h:LR P g w v c):LR P g w v.norm c:=by
 cases h with
 |emp e f a cap hf hs=>cases f<;>first|exact(hf rfl).elim|exact .emp e _ a cap (by simp) hs|exact .emp e _ a cap (by simp) (fun h=>⟨rfl,(hs h).2⟩)
 |lst e f xs b off cap cs hf ht hcl hn hc hl hb hro hcap=>
  cases f with
  |own=>exact .lst e .sh xs b off cap cs (by simp) ht (fun _=>hcl (by simp)) hn hc hl hb hro hcap
  |nil=>exact(hf rfl).elim
  |sh=>exact .lst e _ xs b off cap cs hf ht hcl hn hc hl hb hro hcap
  |lent=>exact .lst e _ xs b off cap cs hf ht hcl hn hc hl hb hro hcap
  |non=>exact .lst e .sh xs b off cap cs (by simp) ht (fun _=>hcl (by simp)) hn hc hl hb hro hcap
 |nil e=>exact .emp e .sh none 0 (by simp) (fun _=>⟨rfl,rfl⟩)
 |bool b=>exact .bool b
 |int k n=>exact .int k n
 |str s=>exact .str s
 |nilp=>exact .nilp
 |nilf=>exact .nilf
 |nili=>exact .nili
 |ifv te pe=>exact .ifv te pe
 |undef c hc=>exact .undef c hc
 |win id p off len e bt o n b cap h1 h2 h3 h4 h5 h6=>exact .win id p off len e bt o n b cap h1 h2 h3 h4 h5 h6
 |win0 id p off e bt o n a cap h1 h2 h3 h4=>exact .win0 id p off e bt o n a cap h1 h2 h3 h4
 |ref id p t bt o b h1 h2 h3=>exact .ref id p t bt o b h1 h2 h3
 |rop t x b off cs ht hn hc hl hb hro=>exact .rop t x b off cs ht hn hc hl hb hro
 |clo f vs cs hn hl=>exact .clo f vs cs hn hl
mutual
theorem XR:∀v:V,(∀vs,v≠ .tup vs)→(∀x∈v.fl,∀vs,x≠ .tup vs)→v.norm.fl=v.fl.map V.norm
 | .agg t fs,_,h=>by simp only[V.norm,V.fl];exact NE fs (by simpa [V.fl]using h)
 | .row e fs,_,h=>by simp only[V.norm,V.fl];exact NE fs (by simpa [V.fl]using h)
 | .lst e f xs,_,_=>by cases f<;>rfl
 | .bool _,_,_=>rfl
 | .int _ _,_,_=>rfl
 | .str _,_,_=>rfl
 | .win _ _ _ _ _,_,_=>rfl
 | .ref _ _ _,_,_=>rfl
 | .rop _ _,_,_=>rfl
 | .nilp,_,_=>rfl
 | .clo _ _,_,_=>rfl
 | .nilf,_,_=>rfl
 | .nili,_,_=>rfl
 | .ifv,_,_=>rfl
 | .tup _,h,_=>(h _ rfl).elim
 | .undef,_,_=>rfl
theorem NE:∀vs:List V,(∀x∈BD vs,∀ws,x≠ .tup ws)→BD (AP vs)=(BD vs).map V.norm
 |[],_=>rfl
 |v::vs,h=>by
  simp only[AP,BD,List.map_append]
  rw[NE vs fun x hx=>h x (by simp[BD,hx])]
  by_cases ht:∃ws,v= .tup ws
  ·obtain⟨ws,rfl⟩:=ht
   exact(h (.tup ws) (by simp[BD,V.fl]) ws rfl).elim
  ·rw[XR v (fun ws e=>ht ⟨ws,e⟩) fun x hx=>h x (by simp[BD,hx])]
end
theorem HT.norm {t:TypeId} {v:V} (h:HT P t v):HT P t v.norm:=by
 induction h with
 |scal hk hv ho=>rename_i t v;cases v<;>simp[V.scal]at hv<;>exact .scal hk rfl ho
 |undef hk=>exact .undef hk
 |undefS hk=>exact .undefS hk
 |lst hk=>rename_i t e f xs;cases f<;>exact .lst hk
 |win hk=>exact .win hk
 |struct hk hl _ ih=>
  refine .struct hk (by simp[BQ,hl]) fun i ft v h1 h2=> ?_
  rw[BQ,List.getElem?_map,Option.map_eq_some_iff]at h2
  obtain⟨v',h2,rfl⟩:=h2
  exact ih i ft v' h1 h2
 |array hk hl _ ih=>
  refine .array hk (by simp[BQ,hl]) fun v hv=> ?_
  rw[BQ,List.mem_map]at hv
  obtain⟨v',hv,rfl⟩:=hv
  exact ih v' hv
theorem HT.noTup {t:TypeId} {v:V} (h:HT P t v):(∀vs,v≠ .tup vs)∧∀x∈v.fl,∀vs,x≠ .tup vs:=by
 induction h with
 |scal hk hv ho=>rename_i t v;cases v<;>simp[V.scal]at hv<;>exact⟨by simp,by simp[V.fl]⟩
 |undef=>exact⟨by simp,by simp[V.fl]⟩
 |undefS=>exact⟨by simp,by simp[V.fl]⟩
 |lst=>exact⟨by simp,by simp[V.fl]⟩
 |win=>exact⟨by simp,by simp[V.fl]⟩
 |struct hk hl H ih=>
  rename_i t u fs vs
  refine⟨by simp,?_⟩
  simp only[V.fl]
  have key:∀(vs:List V),(∀v∈vs,∀x∈v.fl,∀ws,x≠ .tup ws)→∀x∈BD vs,∀ws,x≠ .tup ws:=by
   intro vs
   induction vs with
   |nil=>intro _ x hx;simp[BD]at hx
   |cons v vs ih=>
    intro h x hx
    simp only[BD,List.mem_append]at hx
    rcases hx with hx|hx
    ·exact h v (by simp) x hx
    ·exact ih (fun v hv=>h v (by simp[hv])) x hx
  refine key vs fun v hv=> ?_
  obtain⟨i,hi,rfl⟩:=List.mem_iff_getElem.1 hv
  exact(ih i (fs[i]'(by omega)) vs[i] (List.getElem?_eq_getElem _) (List.getElem?_eq_getElem _)).2
 |array hk hl H ih=>
  rename_i t u n e vs
  refine⟨by simp,?_⟩
  simp only[V.fl]
  have key:∀(vs:List V),(∀v∈vs,∀x∈v.fl,∀ws,x≠ .tup ws)→∀x∈BD vs,∀ws,x≠ .tup ws:=by
   intro vs
   induction vs with
   |nil=>intro _ x hx;simp[BD]at hx
   |cons v vs ih=>
    intro h x hx
    simp only[BD,List.mem_append]at hx
    rcases hx with hx|hx
    ·exact h v (by simp) x hx
    ·exact ih (fun v hv=>h v (by simp[hv])) x hx
  exact key vs fun v hv=>(ih v hv).2
theorem U5 {e:TypeId} {xs:List V} (h:∀x∈xs,HT P e x):∀x∈BD xs,∀ws,x≠ .tup ws:=by
 induction xs with
 |nil=>intro x hx;simp[BD]at hx
 |cons v vs ih=>
  intro x hx
  simp only[BD,List.mem_append]at hx
  rcases hx with hx|hx
  ·exact(h v (by simp)).noTup.2 x hx
  ·exact ih (fun v hv=>h v (by simp[hv])) x hx
end
mutual
theorem AJd:∀v:V,∀x∈v.fl,(∀ws,x≠ .tup ws)→x.leafy=true
 | .agg t fs,x,hx,h=>by simp only[V.fl]at hx;exact Ih fs x hx h
 | .row t fs,x,hx,h=>by simp only[V.fl]at hx;exact Ih fs x hx h
 | .tup fs,x,hx,h=>by simp[V.fl]at hx;exact(h _ hx).elim
 | .lst e f xs,x,hx,_=>by simp[V.fl]at hx;subst hx;rfl
 | .bool _,x,hx,_=>by simp[V.fl]at hx;subst hx;rfl
 | .int _ _,x,hx,_=>by simp[V.fl]at hx;subst hx;rfl
 | .str _,x,hx,_=>by simp[V.fl]at hx;subst hx;rfl
 | .win _ _ _ _ _,x,hx,_=>by simp[V.fl]at hx;subst hx;rfl
 | .ref _ _ _,x,hx,_=>by simp[V.fl]at hx;subst hx;rfl
 | .rop _ _,x,hx,_=>by simp[V.fl]at hx;subst hx;rfl
 | .nilp,x,hx,_=>by simp[V.fl]at hx;subst hx;rfl
 | .clo _ _,x,hx,_=>by simp[V.fl]at hx;subst hx;rfl
 | .nilf,x,hx,_=>by simp[V.fl]at hx;subst hx;rfl
 | .nili,x,hx,_=>by simp[V.fl]at hx;subst hx;rfl
 | .ifv,x,hx,_=>by simp[V.fl]at hx;subst hx;rfl
 | .undef,x,hx,_=>by simp[V.fl]at hx;subst hx;rfl
theorem Ih:∀vs:List V,∀x∈BD vs,(∀ws,x≠ .tup ws)→x.leafy=true
 |[],x,hx,_=>by simp[BD]at hx
 |v::vs,x,hx,h=>by
  simp only[BD,List.mem_append]at hx
  rcases hx with hx|hx
  ·exact AJd v x hx h
  ·exact Ih vs x hx h
end
mutual
theorem ABA:∀v:V,v.clean=true→v.norm.clean=true
 | .agg t fs,h=>by simp only[V.norm,V.clean]at h⊢;exact D6 fs h
 | .row t fs,h=>by simp[V.clean]at h
 | .tup fs,h=>by simp only[V.norm,V.clean]at h⊢;exact D6 fs h
 | .lst e f xs,h=>by cases f<;>first|rfl|(simp[V.clean]at h)
 | .bool _,_=>rfl
 | .int _ _,_=>rfl
 | .str _,_=>rfl
 | .win _ _ _ _ _,h=>by simp[V.clean]at h
 | .ref _ _ _,h=>by simp[V.clean]at h
 | .rop _ _,h=>by simp[V.clean]at h
 | .nilp,_=>rfl
 | .clo _ _,h=>by simp[V.clean]at h
 | .nilf,_=>rfl
 | .nili,_=>rfl
 | .ifv,_=>rfl
 | .undef,h=>by simp[V.clean]at h
theorem D6:∀vs:List V,AU vs=true→AU (AP vs)=true
 |[],_=>rfl
 |v::vs,h=>by
  simp only[AU,AP,Bool.and_eq_true]at h⊢
  exact⟨ABA v h.1,D6 vs h.2⟩
end
mutual
theorem En:∀v:V,v.norm.noOwn=true
 | .agg t fs=>by simp only[V.norm,V.noOwn];exact Dh fs
 | .row t fs=>by simp only[V.norm,V.noOwn];exact Dh fs
 | .tup fs=>by simp only[V.norm,V.noOwn];exact Dh fs
 | .lst e f xs=>by cases f<;>rfl
 | .bool _=>rfl
 | .int _ _=>rfl
 | .str _=>rfl
 | .win _ _ _ _ _=>rfl
 | .ref _ _ _=>rfl
 | .rop _ _=>rfl
 | .nilp=>rfl
 | .clo _ _=>rfl
 | .nilf=>rfl
 | .nili=>rfl
 | .ifv=>rfl
 | .undef=>rfl
theorem Dh:∀vs:List V,BG (AP vs)=true
 |[]=>rfl
 |v::vs=>by
  simp only[BG,AP,Bool.and_eq_true]
  exact⟨En v,Dh vs⟩
end
section
variable {P:Program} {A:Ann} {g g':G} {w w':World}
theorem LRs.norm {e:TypeId} {xs:List V} {cs:List Value} (ht:∀x∈xs,HT P e x) (h:LRs P g w (BD xs) cs):LRs P g w (BD (AP xs)) cs:=by
 rw[NE xs (U5 ht)]
 refine⟨by simp[h.1],fun j x c h1 h2=> ?_⟩
 rw[List.getElem?_map,Option.map_eq_some_iff]at h1
 obtain⟨y,h1,rfl⟩:=h1
 exact(h.2 j y c h1 h2).norm (Ih xs y (List.mem_of_getElem? h1) (U5 ht y (List.mem_of_getElem? h1)))
theorem OG {e:TypeId} {xs:List V} {cs:List Value} (ht:∀x∈xs,HT P e x) (h:LRs P g w (BD xs) cs):
 LRs P g w (BD (D8 P e xs)) cs∧(∀x∈D8 P e xs,HT P e x)∧(D8 P e xs).length=xs.length∧(AU xs=true→AU (D8 P e xs)=true)∧BG (D8 P e xs)=true:=by
 unfold D8
 split
 ·refine⟨h.norm ht,fun x hx=> ?_,by simp[BQ],D6 xs,?_⟩
  ·rw[BQ,List.mem_map]at hx
   obtain⟨y,hy,rfl⟩:=hx
   exact(ht y hy).norm
  ·exact Dh xs
 ·rename_i hs
  refine⟨h,ht,rfl,id,?_⟩
  rw[Dk,List.all_eq_true]
  exact fun x hx=>(ht x hx).noOwn depth (by simpa using hs)
end
end AM
end
section
namespace AM
open Go
section
variable {P:Program} {A:Ann} {g g':G} {w w':World}
theorem AJe (L:Lay P) {t:TypeId} {n:Nat} {ps:List (Nat×V)} {qs:List (Nat×Value)} {v:V} (h:DR P t n ps=some v) (hp:PR P g w ps qs):
 ∃e f xs c w',v= .lst e f xs∧(f= .own∧AU xs=true∨f= .lent)∧BG xs=true∧(Instr.buildSlice t n qs.toArray).run P w= .ok c w'∧Fresh P g w e xs c w':=by
 unfold DR at h
 split at h
 ·rename_i e hk
  split at h
  ·rename_i hn
   obtain⟨ys,hys,rfl⟩:=Option.map_eq_some_iff.1 h
   obtain⟨i1,i2,i3,i4⟩:=L.items t e hk
   have hKe:=(L.slice t e hk).2
   obtain⟨i,z,z1,z2,z3,z4,z5,z6,z7,z8⟩:=Gh (w:=w) L hKe
   have hzf:(zero P e).fl.length=P.cellsOf e:=HT.size L z3
   have hLR0:LRs P g w (BD (List.replicate n (zero P e))) (madeCells z.cells (n*P.cellsOf e)).toList:=by
    have:=LD (P:=P) (z4 g w) n n (Nat.le_refl _) (.inl (by omega))
    rw[GK,hzf,z8,List.take_of_length_le (by rw[Array.length_toList,size_madeCells];exact Nat.le_refl _)]at this
    exact this
   have hfill:=SI L (fun _=>some e) (fun i=>some (i*P.cellsOf e,P.cellsOf e)) (fun i=>i*P.cellsOf e) hys hp
    (fun i t' hi ht'=>by cases ht';rfl)
    (fun i hi=>by rw[C9 L _ e i (by omega) fun v hv=>by rw[List.eq_of_mem_replicate hv];exact hzf])
    (fun i x t' hx ht'=>by cases ht';rw[List.eq_of_mem_replicate (List.mem_of_getElem? hx)];exact z3) hLR0
    (by rw[Dk,List.all_eq_true];intro x hx;rw[List.eq_of_mem_replicate hx];exact z6)
   obtain⟨cs',f1,f2,f3,f4,f5⟩:=hfill
   have hty:∀x∈ys,HT P e x:=fun x hx=>by
    obtain⟨k,hk,rfl⟩:=List.mem_iff_getElem.1 hx
    exact f3 k _ e (List.getElem?_eq_getElem hk) rfl
   obtain⟨n1,n2,n3,n4,n5⟩:=OG hty f4
   rw[List.length_replicate]at f2
   have hlen:(BD (D8 P e ys)).length=n*P.cellsOf e:=by
    rw[Aw L _ e fun x hx=>HT.size L (n2 x hx),n3,f2]
   have hcs:cs'.size=n*P.cellsOf e:=by have:=n1.1;rw[hlen]at this;simpa using this
   have hsz:i.size=P.cellsOf e:=by unfold Program.cellsOf;rw[z1];rfl
   have hle:¬n*P.cellsOf e>2^24:=by
    have:n*P.cellsOf e≤65536*256:=Nat.mul_le_mul hn i4
    simp only[Nat.not_lt];exact Nat.le_trans this (by decide)
   refine⟨e,_,D8 P e ys,.slice (some ⟨w.heap.size,0,none⟩) n n,w.alloc (.cells cs' e),rfl,?_,n5,?_,⟨⟨cs',e,_,n,New.of_alloc w cs' e,?_,?_,?_,?_,?_⟩,n2⟩⟩
   ·split
    ·rename_i hc;exact .inl ⟨rfl,n4 hc⟩
    ·exact .inr rfl
   ·simp only[Instr.buildSlice,Sem.run_bind,Ad (Df hk),Result.andThen_ok,run_sizeOf hKe,Sem.run_ite,if_neg hle]
    by_cases h0:n*P.cellsOf e=0
    ·have e1:madeCells (#[]:Array Value) (n*P.cellsOf e)=madeCells z.cells (n*P.cellsOf e):=by rw[h0];simp[madeCells]
     rw[if_pos h0]
     simp only[Sem.run_pure,Result.andThen_ok,List.toList_toArray]
     rw[show(Array.range (n*P.cellsOf e)).map (fun x=>(#[]:Array Value)[x%(#[]:Array Value).size]!)=madeCells (#[]:Array Value) (n*P.cellsOf e)from rfl,e1,f1]
     rfl
    ·rw[if_neg h0]
     simp only[Sem.run_bind,z7,Result.andThen_ok,Sem.run_pure,List.toList_toArray]
     rw[show(Array.range (n*P.cellsOf e)).map (fun x=>z.cells[x%z.cells.size]!)=madeCells z.cells (n*P.cellsOf e)from rfl,f1]
     rfl
   ·rw[n3,f2]
   ·rw[n3,f2];exact Nat.le_refl _
   ·rw[hcs];exact Nat.le_refl _
   ·intro j hj
    have:=(New.of_alloc w cs' e).new
    simp only[World.frozen?,this];simp
   ·rw[hlen,←hcs,←Array.length_toList,List.take_length];exact n1
  ·cases h
 ·cases h
theorem OH (s:List UInt8):LRs P g w (BD (bytesOf s)) (s.map fun b=>Value.int .u8 b.toNat):=by
 have e:BD (bytesOf s)=s.map fun b=>V.int .u8 b.toNat:=by
  induction s with
  |nil=>rfl
  |cons b s ih=>simp only[bytesOf,List.map_cons,BD,V.fl]at ih⊢;rw[ih];rfl
 rw[e]
 refine⟨by simp,fun j x c h1 h2=> ?_⟩
 rw[List.getElem?_map,Option.map_eq_some_iff]at h1 h2
 obtain⟨b,h1,rfl⟩:=h1
 obtain⟨b',h2,rfl⟩:=h2
 rw[h1]at h2;cases h2
 exact .int _ _
theorem AMj {e:TypeId} (h:P.underlying e=some (.int .u8)) (ht:K P e≠ .bad) (n:Int):HT P e (.int .u8 n):=by
 have hk:K P e= .scal:=by
  have hlt:=Fh ht
  have e':Nat.blt e P.types.size=true:=Nat.ble_eq_true_of_le hlt
  unfold K;rw[if_neg (by rw[e'];simp),h]
 exact .scal hk rfl (by simp[Bd,h])
theorem AJf {e:TypeId} (h:P.underlying e=some (.int .u8)) (ht:K P e≠ .bad) (s:List UInt8):∀x∈bytesOf s,HT P e x:=by
 intro x hx
 simp only[bytesOf,List.mem_map]at hx
 obtain⟨b,_,rfl⟩:=hx
 exact AMj h ht _
theorem Ot (s:List UInt8):AU (bytesOf s)=true∧BG (bytesOf s)=true:=by
 rw[ED,Dk]
 simp[bytesOf,List.all_map,V.clean,V.noOwn]
theorem NF (L:Lay P) {t e:TypeId} (hk:K P t= .slice e) (h:P.underlying e=some (.int .u8)) (s:ByteArray) (hs:s.data.toList.length≤EI):
 ∃c w',(Conv.stringToBytes e s).run P w= .ok c w'∧Fresh P g w e (bytesOf s.data.toList) c w':=by
 have hKe:=(L.slice t e hk).2
 have hKs:K P e= .scal:=by
  have hlt:=Fh hKe
  have e':Nat.blt e P.types.size=true:=Nat.ble_eq_true_of_le hlt
  unfold K;rw[if_neg (by rw[e'];simp),h]
 have h1:P.cellsOf e=1:=L.scal e hKs
 have hsz:s.data.toList.length=s.size:=rfl
 have hge:=grownCap_ge w s.size 0 e
 let cs:Array Value:=s.data.map (fun b=>Value.int .u8 b.toNat)++Array.replicate (grownCap w s.size 0 e-s.size) (.int .u8 0)
 have hcs:cs.size=grownCap w s.size 0 e:=by
  have:s.data.size=s.size:=rfl
  simp[cs];omega
 have N:New w ((w.drew.alloc (.cells cs e)).freeze ⟨w.heap.size,cs.size,none⟩ 1) cs e (cs.size,cs.size+1):=by
  have N0:=New.of_drew w cs e
  have hf:((w.drew.alloc (.cells cs e)).freeze ⟨w.heap.size,cs.size,none⟩ 1)={w.drew.alloc (.cells cs e)with heap:=(w.drew.alloc (.cells cs e)).heap.modify w.heap.size fun
   | .cells c elem (lo,hi)=> .cells c elem (if lo==hi then(cs.size,cs.size+1)else(min lo cs.size,max hi (cs.size+1)))
   |o=>o}:=rfl
  rw[hf]
  refine⟨rfl,rfl,rfl,?_,fun b hb=> ?_,?_⟩
  ·simp only[Array.size_modify];exact N0.size
  ·rw[Array.getElem?_modify,if_neg (by omega)];exact N0.old b hb
  ·rw[Array.getElem?_modify,if_pos rfl,N0.new];rfl
 have hl:(bytesOf s.data.toList).length=s.size:=by simp[bytesOf,hsz]
 refine⟨.slice (some ⟨w.heap.size,0,none⟩) (bytesOf s.data.toList).length (grownCap w s.size 0 e),_,?_,⟨⟨cs,e,_,_,N,rfl,by rw[hl];exact hge,by rw[h1,hcs];omega,fun j hj=> ?_,?_⟩,AJf h hKe _⟩⟩
 ·rw[hl]
  simp only[Conv.stringToBytes,Sem.run_bind]
  have hch:(choose (.appendCap s.size 0 e)).run P w= .ok (grownCap w s.size 0 e) w.drew:=by
   rfl
  rw[hch,Result.andThen_ok]
  have hnr:(newRow e cs).run P w.drew= .ok ⟨w.heap.size,0,none⟩ (w.drew.alloc (.cells cs e)):=by
   rfl
  rw[hnr,Result.andThen_ok]
  have hms:(markStringish ⟨w.heap.size,0,none⟩).run P (w.drew.alloc (.cells cs e))= .ok () ((w.drew.alloc (.cells cs e)).freeze ⟨w.heap.size,cs.size,none⟩ 1):=by
   have:(w.drew.alloc (.cells cs e)).shape? w.heap.size=some (e,cs.size):=by
    simp only[World.shape?,(New.of_drew w cs e).new]
   simp[markStringish,this]
  rw[hms,Result.andThen_ok]
  rfl
 ·simp only[World.frozen?,N.new]
  simp;omega
 ·have:=OH (P:=P) (g:=g) (w:=w) s.data.toList
  have e2:(BD (bytesOf s.data.toList)).length=s.data.toList.length:=by rw[←this.1];simp
  rw[e2]
  have e3:cs.toList.take s.data.toList.length=s.data.toList.map fun b=>Value.int .u8 b.toNat:=by
   simp only[cs,Array.toList_append,Array.toList_map]
   rw[List.take_append_of_le_length (by simp),List.take_of_length_le (by simp)]
  rw[e3];exact this
end
end AM
end
section
namespace AM
open Go
section
variable {P:Program} {A:Ann} {g g':G} {w w':World}
theorem Src.read {ys:List V} {c:Value} {e:TypeId} (L:Lay P) (h:Src P g w ys c) (ht:∀y∈ys,HT P e y):
 (Builtin.lenOf c).run P w= .ok ys.length w∧∃news:List Value,LRs P g w (BD ys) news∧news.length=ys.length*P.cellsOf e∧∀w'':World,w''.heap=w.heap→(Builtin.firstCells (P.cellsOf e) ys.length c).run P w''= .ok news.toArray w'':=by
 have hl:=Aw L ys e fun y hy=>HT.size L (ht y hy)
 cases h with
 |nil a cap=>
  refine⟨rfl,[],⟨rfl,by simp[BD]⟩,by simp,fun w'' _=> ?_⟩
  cases a with
  |none=>rfl
  |some a=>simp[Builtin.firstCells,loadCells,loadCellsFrom]
 |cells _ b off cap cs h1 h2=>
  have hc:cs.length=ys.length*P.cellsOf e:=by rw[h1.1,hl]
  refine⟨rfl,cs,h1,hc,fun w'' hw=> ?_⟩
  refine run_firstCells_some w'' (P.cellsOf e) ys.length _ _ cap cs hc fun j v hj=> ?_
  rw[addr_add]
  have:=h2 j v hj
  simpa [World.cell?,hw]using this
 |str s=>
  have hs:(bytesOf s.data.toList).length=s.size:=by simp[bytesOf]
  have hb:=OH (P:=P) (g:=g) (w:=w) s.data.toList
  refine⟨by simp[Builtin.lenOf,hs],s.data.toList.map fun b=>Value.int .u8 b.toNat,hb,by rw[hb.1,hl],fun w'' _=> ?_⟩
  simp only[Builtin.firstCells,Sem.run_pure]
  congr 1
  have:s.extract 0 (bytesOf s.data.toList).length=s:=by rw[hs];simp
  rw[this]
  apply Array.ext'
  simp
theorem TW (L:Lay P) {t u ty e:TypeId} {d:TypeDesc} (hk:K P t= .slice e) (hu:P.underlying u=some d) (hd:d= .string∨∃e',d= .slice e') {b off n cap m:Nat} {cy:Value} {news:List Value}
 (hlen:(Builtin.lenOf cy).run P w= .ok m w) (hf:(Builtin.firstCells (P.cellsOf e) m cy).run P w= .ok news.toArray w) (hroom:n+m≤cap)
 (hc:∀j,j<news.length→(w.cell? ⟨b,off+n*P.cellsOf e+j,none⟩).isSome=true) (hfz:∀j,j<news.length→w.frozen? ⟨b,off+n*P.cellsOf e+j,none⟩=false) (h1:∀v∈news,v.oneCell'=true):
 (Builtin.append_ #[t,u] ty #[.slice (some ⟨b,off,none⟩) n cap,cy]).run P w= .ok (.slice (some ⟨b,off,none⟩) (n+m) cap) (w.setCells b (off+n*P.cellsOf e) news):=by
 have hst:=run_storeCells_cells (P:=P) b (off+n*P.cellsOf e) news 0 w (by simpa using hc) (by simpa using hfz) h1
 have hK:=(L.slice t e hk).2
 have e1:(#[t,u]:Array TypeId)[1]?=some u:=rfl
 have e0:(#[t,u]:Array TypeId)[0]?=some t:=rfl
 have a0:(#[.slice (some ⟨b,off,none⟩) n cap,cy]:Array Value)[0]?=some (.slice (some ⟨b,off,none⟩) n cap):=rfl
 have a1:(#[.slice (some ⟨b,off,none⟩) n cap,cy]:Array Value)[1]?=some cy:=rfl
 rcases hd with rfl|⟨e',rfl⟩
 all_goals
  unfold Builtin.append_
  simp only[e0,e1,a0,a1,Sem.run_bind,Ad (Df hk),run_sizeOf hK,Result.andThen_ok]
  simp only[Ad hu,Sem.run_pure,Result.andThen_ok,Bool.false_eq_true,if_false,Bool.not_false,if_true,Sem.run_bind,hlen,Sem.run_ite]
  rw[if_pos hroom]
  simp only[Sem.run_bind,hf,Result.andThen_ok,addr_add,List.toList_toArray]
  simp only[Nat.add_zero]at hst
  rw[hst]
  simp
theorem SK (L:Lay P) {t u ty e:TypeId} {d:TypeDesc} (hk:K P t= .slice e) (hu:P.underlying u=some d) (hd:d= .string∨∃e',d= .slice e') {base:Option Addr} {n cap m:Nat} {cy:Value} {olds news:List Value} {z:Value}
 (hz:(zeroValue e).run P w.drew= .ok z w.drew)
 (hlen:(Builtin.lenOf cy).run P w= .ok m w) (hf:(Builtin.firstCells (P.cellsOf e) m cy).run P w.drew= .ok news.toArray w.drew) (ho:(Builtin.firstCells (P.cellsOf e) n (.slice base n cap)).run P w.drew= .ok olds.toArray w.drew)
 (hroom:cap<n+m) (hmost:n+m≤EI):
 (Builtin.append_ #[t,u] ty #[.slice base n cap,cy]).run P w= .ok (.slice (some ⟨w.heap.size,0,none⟩) (n+m) (grownCap w (n+m) cap e))
  (w.drew.alloc (.cells (olds.toArray++news.toArray++Builtin.zeroCells z.cells (grownCap w (n+m) cap e-(n+m))) e)):=by
 have hK:=(L.slice t e hk).2
 obtain⟨i1,i2,i3,i4⟩:=L.items t e hk
 obtain⟨i,hi⟩:=U2 hK
 have e1:(#[t,u]:Array TypeId)[1]?=some u:=rfl
 have e0:(#[t,u]:Array TypeId)[0]?=some t:=rfl
 have a0:(#[.slice base n cap,cy]:Array Value)[0]?=some (.slice base n cap):=rfl
 have a1:(#[.slice base n cap,cy]:Array Value)[1]?=some cy:=rfl
 have hti:∀w,(typeInfo e).run P w= .ok i w:=fun w=>by simp[typeInfo,hi]
 rcases hd with rfl|⟨e',rfl⟩
 all_goals
  unfold Builtin.append_
  simp only[e0,e1,a0,a1,Sem.run_bind,Ad (Df hk),run_sizeOf hK,Result.andThen_ok]
  simp only[Ad hu,Sem.run_pure,Result.andThen_ok,Bool.false_eq_true,if_false,Bool.not_false,if_true,Sem.run_bind,hlen,Sem.run_ite]
  rw[if_neg (by omega)]
  have hb:=i3 i hi
  have hfits:Builtin.nextslicecap (n+m) cap*i.bytes≤281474976710656:=growslice_fits hroom (by
   have:(n+m)*i.bytes≤EI*65536:=Nat.mul_le_mul hmost hb
   exact Nat.le_trans this (by decide))
  have h63:¬((n+m:Nat):Int)>IntKind.i64.max:=by
   simp only[IntKind.max,IntKind.signed,IntKind.bits]
   simp only[EI]at hmost
   simp;omega
  simp only[Sem.run_bind,hti,Result.andThen_ok,Sem.run_ite]
  rw[if_neg (fun h=>h63 h.1),if_neg (by omega)]
  have hch:(choose (.appendCap (n+m) cap e)).run P w= .ok (grownCap w (n+m) cap e) w.drew:=rfl
  have har:∀k w,(askRoom k).run P w= .ok () w:=by intro k w;unfold askRoom;split<;>rfl
  rw[hch,Result.andThen_ok,har,Result.andThen_ok,ho,Result.andThen_ok,hf,Result.andThen_ok,hz,Result.andThen_ok]
  rfl
theorem LR.oneCell {v:V} {c:Value} (h:LR P g w v c):c.oneCell'=true:=by
 cases h with
 |undef c hc=>exact hc
 |_=>rfl
theorem LRs.oneCell {xs:List V} {cs:List Value} (h:LRs P g w xs cs):∀c∈cs,c.oneCell'=true:=by
 intro c hc
 obtain⟨j,hj,rfl⟩:=List.mem_iff_getElem.1 hc
 have hx:xs[j]?=some (xs[j]'(by rw[←h.1];exact hj)):=List.getElem?_eq_getElem _
 exact(h.2 j _ _ hx (List.getElem?_eq_getElem hj)).oneCell
structure Touch (g:G) (w:World) (g':G) (w':World) (b:Nat):Prop where
 os:w'.os=w.os
 tape:w'.tape=w.tape
 out:w'.output=w.output
 size:w'.heap.size=w.heap.size
 lt:b<w.heap.size
 held:g.H b≠none
 nobox:some b∉g.β
 old:∀b',b'≠b→w'.heap[b']?=w.heap[b']?∧g'.H b'=g.H b'∧g'.ro b'=g.ro b'∧g'.lro b'=g.lro b'
 keep:∀j,j<g.lro b→w'.cell? ⟨b,j,none⟩=w.cell? ⟨b,j,none⟩
 ro:g.ro b≤g'.ro b
 lro:g.lro b≤g'.lro b
 bsz:Az w b≤Az w' b
 le:g'.ro b≤g'.lro b
 beta:g'.β=g.β
 typ:g'.ty=g.ty
theorem Touch.ext {b:Nat} (T:Touch g w g' w' b):Ext g w g' w':=by
 refine⟨T.os,T.tape,T.out,by rw[T.size];exact Nat.le_refl _,fun b' hb h1 h2=> ?_,fun b' hb=> ?_,⟨[],by simp[T.beta]⟩,⟨[],by simp[T.typ]⟩,fun b' hb=> ?_⟩
 ·have hne:b'≠b:=by rintro rfl;exact T.held h1
  obtain⟨a1,a2,a3,a4⟩:=T.old b' hne
  exact⟨a1,by rw[a2,h1],by rw[T.beta];exact h2,a3,a4⟩
 ·by_cases hne:b'=b
  ·subst hne
   exact⟨T.keep,T.ro,T.lro,by rw[T.beta];exact id⟩
  ·obtain⟨a1,a2,a3,a4⟩:=T.old b' hne
   exact⟨fun j _=>KJ a1 j,by rw[a3];exact Nat.le_refl _,by rw[a4];exact Nat.le_refl _,by rw[T.beta];exact id⟩
 ·by_cases hne:b'=b
  ·subst hne;exact T.bsz
  ·obtain⟨a1,_⟩:=T.old b' hne
   simp[Az,a1]
theorem Touch.own {b:Nat} (T:Touch g w g' w' b) {e:TypeId} {n:Nat} {c:Value} {l:Nat⊕(Nat×Nat)} (h:Own P g w e n c l) (hl:g.H b≠some l):Own P g' w' e n c l:=by
 rcases h with h|⟨b',off,len,cap,cs,e',fz,h1,h2,h3,h4,h5,h6,h7,h8⟩
 ·exact .inl h
 ·have hne:b'≠b:=by rintro rfl;exact hl h2
  obtain⟨a1,a2,a3,a4⟩:=T.old b' hne
  exact .inr ⟨b',off,len,cap,cs,e',fz,h1,by rw[a2];exact h2,by rw[T.beta];exact h3,by rw[a1];exact h4,h5,fun j hj=>by rw[CP a1];exact h6 j hj,by rw[a3];exact h7,by rw[a3,a4];exact h8⟩
theorem Touch.wg {b:Nat} (T:Touch g w g' w' b) (W:WG g w):WG g' w':=by
 refine⟨fun b' hb=> ?_,fun i b' hb=> ?_,fun b'=> ?_⟩
 ·have hne:b'≠b:=by rintro rfl;have:=T.lt;rw[T.size]at hb;omega
  obtain⟨a1,a2,a3,a4⟩:=T.old b' hne
  rw[a2,a3,a4];exact W.fresh b' (by rw[T.size]at hb;exact hb)
 ·rw[T.beta]at hb
  have hne:b'≠b:=by rintro rfl;exact T.nobox (List.mem_of_getElem? hb)
  obtain⟨a1,a2,a3,a4⟩:=T.old b' hne
  rw[a2,a3,a4,T.size];exact W.box i b' hb
 ·by_cases hne:b'=b
  ·subst hne;exact T.le
  ·obtain⟨a1,a2,a3,a4⟩:=T.old b' hne
   rw[a3,a4];exact W.le b'
theorem Touch.sr {b:Nat} (T:Touch g w g' w' b) {st:St} {tm:Array Value} (S:SR P A g w st tm) (hs:∀k e xs,st.get k= .lst e .own xs→g.H b≠some (.inl k))
 (hc:∀(i:Nat) (v:V) (b' j:Nat) e xs,st.h[i]?=some v→g.β[i]?=some (some b')→v.fl[j]?=some (.lst e .own xs)→g.H b≠some (.inr (b',j))):SR P A g' w' st tm:=by
 refine⟨fun k=>(S.slot k).ext T.ext S.wg,fun k e xs h=>T.own (S.own k e xs h) (hs k e xs h),S.nown,?_,T.wg S.wg,S.glob.ext T.ext S.wg⟩
 have B:=S.box
 refine⟨by rw[T.beta];exact B.len,by rw[T.typ];exact B.tys,by rw[T.beta];exact B.inj,by rw[T.typ];exact B.has,by rw[T.beta];exact B.void,B.low,fun k v b' hv hb=> ?_⟩
 rw[T.beta]at hb
 have hne:b'≠b:=by rintro rfl;exact T.nobox (List.mem_of_getElem? hb)
 obtain⟨cs,e,fz,c1,c2,c3,c4⟩:=B.cells k v b' hv hb
 obtain⟨a1,_⟩:=T.old b' hne
 refine⟨cs,e,fz,by rw[a1];exact c1,c2,fun j hj=>by rw[CP a1];exact c3 j hj,fun j x hx=> ?_⟩
 obtain⟨c,d1,d2,d3⟩:=c4 j x hx
 exact⟨c,d1,d2.ext T.ext S.wg,fun e xs h=>T.own (d3 e xs h) (hc k v b' j e xs hv hb (by rw[hx,h]))⟩
theorem SR.weaken {st:St} {tm:Array Value} (S:SR P A g w st tm) (i:Nat):SR P A g w {st with s:=insert i (st.get i).weak st.s} tm:=by
 refine⟨fun k=> ?_,fun k e xs h=> ?_,fun k=> ?_,S.box,S.wg,S.glob⟩
 ·simp only[St.get]
  rw[Bl]
  split
  ·rename_i h;subst h;exact(S.slot k).weak
  ·exact S.slot k
 ·simp only[St.get]at h
  rw[Bl]at h
  split at h
  ·rename_i hk;subst hk
   have:=(S.slot k).noOwn_weak
   simp only[St.get]at this
   rw[h]at this;simp[V.noOwn]at this
  ·exact S.own k e xs h
 ·simp only[St.get]
  rw[Bl]
  split
  ·exact .inr (S.slot i).noOwn_weak
  ·exact S.nown k
end
end AM
end
section
namespace AM
open Go
section
variable {P:Program} {A:Ann} {g g':G} {w w':World}
theorem ZY {e:TypeId} {h:List V} {y:V} {ys:List V} {cy:Value} (L:Lay P) (B:BX P g w h) (hc:Ai h y=some ys) (hy:VR P g w y cy) (hok:Hq P e ys=true):∀x∈ys,HT P e x:=by
 intro x hx
 have hx':=(List.all_eq_true.1 hok) x hx
 obtain⟨_,e',he⟩:=Ew L B hc hy
 by_cases hs:∃s,y= .str s
 ·obtain⟨s,rfl⟩:=hs
  simp only[Ai,Option.some.injEq]at hc
  subst hc
  simp only[List.mem_map]at hx
  obtain⟨b,_,rfl⟩:=hx
  exact(Fp (P:=P) (g:=g) (w:=w) hx' (.of_int _ _)).1
 ·exact(he (fun s e=>hs ⟨s,e⟩) x hx).of_tyOk hx'
theorem AJg {e:TypeId} {xs:List V} {f:Fl} {c:Value} (hf:f= .own∨f= .nil) (h:LR P g w (.lst e f xs) c) (ho:f= .own→∃l,Own P g w e xs.length c l):
 (f= .nil∧c= .slice none 0 0∧xs=[])∨
 ∃l b off cap cs e' fz,f= .own∧c= .slice (some ⟨b,off,none⟩) xs.length cap∧g.H b=some l∧some b∉g.β∧w.heap[b]?=some (.cells cs e' fz)∧off+cap*P.cellsOf e≤cs.size∧xs.length≤cap∧
  (∀j,j<cs.size→w.frozen? ⟨b,j,none⟩=false)∧g.ro b=off+xs.length*P.cellsOf e∧g.lro b=g.ro b:=by
 rcases hf with rfl|rfl
 ·obtain⟨a,cap,rfl,hle,_⟩:=slice_form h
  obtain⟨l,ho⟩:=ho rfl
  rcases ho with⟨len,hc⟩|⟨b,off,len,cap',cs,e',fz,hc,h2,h3,h4,h5,h6,h7,h8⟩
  ·simp only[Value.slice.injEq]at hc
   obtain⟨rfl,hlen,rfl⟩:=hc
   cases h with
   |emp _ _ _ _ _ hs=>cases (hs rfl).1
  ·simp only[Value.slice.injEq]at hc
   obtain⟨rfl,hlen,rfl⟩:=hc
   exact .inr ⟨l,b,off,cap,cs,e',fz,rfl,rfl,h2,h3,h4,h5,hle,h6,h7,h8⟩
 ·cases h with
  |nil=>exact .inl ⟨rfl,rfl,rfl⟩
  |emp _ _ _ _ hf=>exact(hf rfl).elim
  |lst _ _ _ _ _ _ _ hf=>exact(hf rfl).elim
theorem ABB {xs ys:List V} {cs ds:List Value} (h:LRs P g w xs cs) (k:LRs P g w ys ds):LRs P g w (xs++ys) (cs++ds):=by
 refine⟨by rw[List.length_append,List.length_append,h.1,k.1],fun j a b h1 h2=> ?_⟩
 rw[List.getElem?_append]at h1 h2
 rw[h.1]at h2
 split at h1
 ·rename_i hj;rw[if_pos hj]at h2;exact h.2 j a b h1 h2
 ·rename_i hj;rw[if_neg hj]at h2;exact k.2 _ a b h1 h2
inductive AppR (P:Program) (g:G) (w:World) (e:TypeId) (n:Nat) (c0:Value) (zs:List V):Value→World→Prop where
 |nil (cap:Nat):c0= .slice none 0 0→zs=[]→cap=0→AppR P g w e n c0 zs (.slice none 0 cap) w
 |fresh (c:Value) (w':World):Fresh P g w e zs c w'→AppR P g w e n c0 zs c w'
 |room (l:Nat⊕(Nat×Nat)) (b off cap:Nat) (cs:Array Value) (e':TypeId) (fz:Nat×Nat) (news:List Value):c0= .slice (some ⟨b,off,none⟩) n cap→g.H b=some l→some b∉g.β→w.heap[b]?=some (.cells cs e' fz)→
  off+cap*P.cellsOf e≤cs.size→zs.length≤cap→n≤zs.length→(∀j,j<cs.size→w.frozen? ⟨b,j,none⟩=false)→g.ro b=off+n*P.cellsOf e→g.lro b=g.ro b→
  news.length=(zs.length-n)*P.cellsOf e→LRs P g w (BD zs) ((cs.toList.drop off).take (n*P.cellsOf e)++news)→(∀x∈zs,HT P e x)→
  AppR P g w e n c0 zs (.slice (some ⟨b,off,none⟩) zs.length cap) (w.setCells b (off+n*P.cellsOf e) news)
theorem U6 (L:Lay P) {e:TypeId} {f:Fl} {xs:List V} {b off cap:Nat} {cs:Array Value} {e1:TypeId} {fz:Nat×Nat} (h:LR P g w (.lst e f xs) (.slice (some ⟨b,off,none⟩) xs.length cap)) (ht:∀x∈xs,HT P e x) (hb:w.heap[b]?=some (.cells cs e1 fz)) (hl:off+xs.length*P.cellsOf e≤cs.size):
 LRs P g w (BD xs) ((cs.toList.drop off).take (xs.length*P.cellsOf e)):=by
 have hlen:=Aw L xs e fun x hx=>HT.size L (ht x hx)
 refine⟨by rw[hlen];simp;omega,fun j x c h1 h2=> ?_⟩
 generalize hc:Value.slice (some ⟨b,off,none⟩) xs.length cap=cc at h
 cases h with
 |nil=>simp[BD]at h1
 |emp=>simp[BD]at h1
 |lst _ _ _ b' off' cap' cs' hf ht hcl hn hcc hlr hb' hro hcap=>
  simp only[Value.slice.injEq,Option.some.injEq,Addr.mk.injEq]at hc
  obtain⟨⟨rfl,rfl,_⟩,_,rfl⟩:=hc
  have hj:j<cs'.length:=by
   rw[hn]
   rcases Nat.lt_or_ge j (BD xs).length with h'|h'
   ·exact h'
   ·rw[List.getElem?_eq_none h']at h1;cases h1
  have:=hcc j _ (List.getElem?_eq_getElem hj)
  rw[cell_of_block hb]at this
  rw[List.getElem?_take]at h2
  split at h2
  ·rw[List.getElem?_drop,Array.getElem?_toList,this]at h2
   cases h2
   exact hlr j x _ h1 (List.getElem?_eq_getElem hj)
  ·cases h2
theorem O8 (L:Lay P) {t u ty e:TypeId} {d:TypeDesc} (hk:K P t= .slice e) (hu:P.underlying u=some d) (hd:d= .string∨∃e',d= .slice e') {cy:Value} {news:List Value}
 (hlen:(Builtin.lenOf cy).run P w= .ok 0 w) (hf:(Builtin.firstCells (P.cellsOf e) 0 cy).run P w= .ok news.toArray w):
 (Builtin.append_ #[t,u] ty #[.slice none 0 0,cy]).run P w= .ok (.slice none 0 0) w:=by
 have hK:=(L.slice t e hk).2
 have e1:(#[t,u]:Array TypeId)[1]?=some u:=rfl
 have e0:(#[t,u]:Array TypeId)[0]?=some t:=rfl
 have a0:(#[.slice none 0 0,cy]:Array Value)[0]?=some (.slice none 0 0):=rfl
 have a1:(#[.slice none 0 0,cy]:Array Value)[1]?=some cy:=rfl
 rcases hd with rfl|⟨e',rfl⟩
 all_goals
  unfold Builtin.append_
  simp only[e0,e1,a0,a1,Sem.run_bind,Ad (Df hk),run_sizeOf hK,Result.andThen_ok]
  simp only[Ad hu,Sem.run_pure,Result.andThen_ok,Bool.false_eq_true,if_false,Bool.not_false,if_true,Sem.run_bind,hlen,Sem.run_ite]
  rw[if_pos (by omega)]
  simp only[hf,Result.andThen_ok]
theorem AJh (L:Lay P) {h:List V} (B:BX P g w h) {t u ty:TypeId} {d:TypeDesc} (hu:P.underlying u=some d) (hd:d= .string∨∃e',d= .slice e') {x y v:V} {cx cy:Value} (ha:EP P t h x y=some v)
 (hx:VR P g w x cx) (hy:VR P g w y cy) (ho:∀e xs,x= .lst e .own xs→∃l,Own P g w e xs.length cx l):
 ∃e f xs zs c w',x= .lst e f xs∧(f= .own∨f= .nil)∧(v= .lst e .own zs∧(f= .nil→zs≠[])∨v= .lst e .nil []∧f= .nil∧zs=[]∧c= .slice none 0 0∧w'=w)∧AU zs=true∧(xs=[]→BG zs=true)∧(Builtin.append_ #[t,u] ty #[cx,cy]).run P w= .ok c w'∧AppR P g w e xs.length cx zs c w':=by
 unfold EP at ha
 split at ha
 case h_2=>cases ha
 rename_i e e' f xs hk
 split at ha
 case isFalse=>cases ha
 rename_i hc
 simp only[Bool.and_eq_true,decide_eq_true_eq,Bool.or_eq_true,beq_iff_eq]at hc
 obtain⟨rfl,hf⟩:=hc
 obtain⟨ys,hys,ha⟩:=Option.bind_eq_some_iff.1 ha
 split at ha
 case isFalse=>cases ha
 rename_i hc2
 simp only[Bool.and_eq_true,decide_eq_true_eq]at hc2
 obtain⟨⟨c1,c2⟩,c3⟩:=hc2
 obtain rfl:=Option.some.inj ha
 have hLx:=hx.leaf' rfl (by simp)
 obtain⟨hsrc,_⟩:=Ew L B hys hy
 have hty:=ZY L B hys hy c2
 obtain⟨q1,news,q2,q3,q4⟩:=hsrc.read L hty
 obtain⟨n1,n2,n3,n4,n5⟩:=OG hty q2
 have hpos:=(L.items t e' hk).1
 have hxs:(∀x∈xs,HT P e' x)∧AU xs=true:=by
  cases hLx with
  |nil=>exact⟨by simp,rfl⟩
  |emp=>exact⟨by simp,rfl⟩
  |lst _ _ _ b off cap cs hf' ht hcl=>exact⟨ht,hcl (by rcases hf with rfl|rfl<;>simp)⟩
 have hzt:∀z∈xs++D8 P e' ys,HT P e' z:=by
  intro z hz
  rcases List.mem_append.1 hz with hz|hz
  ·exact hxs.1 z hz
  ·exact n2 z hz
 have hzl:(xs++D8 P e' ys).length=xs.length+ys.length:=by rw[List.length_append,n3]
 have hzc:AU (xs++D8 P e' ys)=true:=by
  rw[ED,List.all_append,Bool.and_eq_true,←ED,←ED];exact⟨hxs.2,n4 c1⟩
 have hzo:xs=[]→BG (xs++D8 P e' ys)=true:=by
  intro hx0;rw[hx0,List.nil_append];exact n5
 refine⟨e',f,xs,xs++D8 P e' ys,?_⟩
 have hlen:(D8 P e' ys).length=ys.length:=n3
 obtain⟨i,z,z1,z2,z3,z4,z5,z6,z7,z8⟩:=Gh (w:=w.drew) L (L.slice t e' hk).2
 have out:∀(base:Option Addr) (cap:Nat) (olds:List Value),cx= .slice base xs.length cap→cap<xs.length+ys.length→LRs P g w (BD xs) olds→(∀w'':World,w''.heap=w.heap→(Builtin.firstCells (P.cellsOf e') xs.length (.slice base xs.length cap)).run P w''= .ok olds.toArray w'')→
  ∃c w',(Builtin.append_ #[t,u] ty #[cx,cy]).run P w= .ok c w'∧Fresh P g w e' (xs++D8 P e' ys) c w':=by
  intro base cap olds hcx hcap holds hfo
  subst hcx
  have hrun:=SK (ty:=ty) L hk hu hd (base:=base) (n:=xs.length) (cap:=cap) (m:=ys.length) (cy:=cy) (olds:=olds) (news:=news) (z:=z) (w:=w) z7 q1 (q4 w.drew rfl) (hfo w.drew rfl) hcap c3
  have hge:=grownCap_ge w (xs.length+ys.length) cap e'
  have hol:olds.length=xs.length*P.cellsOf e':=by rw[holds.1];exact Aw L xs e' fun x hx=>HT.size L (hxs.1 x hx)
  have hzs:(Builtin.zeroCells z.cells (grownCap w (xs.length+ys.length) cap e'-(xs.length+ys.length))).size=(grownCap w (xs.length+ys.length) cap e'-(xs.length+ys.length))*P.cellsOf e':=by
   rw[size_zeroCells,z8]
  refine⟨_,_,hrun,⟨⟨_,e',(0,0),grownCap w (xs.length+ys.length) cap e',New.of_drew w _ e',by rw[hzl],by rw[hzl];exact hge,?_,fun j hj=> ?_,?_⟩,hzt⟩⟩
  ·simp only[Array.size_append,List.size_toArray,hzs,hol,q3,←Nat.add_mul]
   exact Nat.mul_le_mul_right _ (by omega)
  ·have:=(New.of_drew w (olds.toArray++news.toArray++Builtin.zeroCells z.cells (grownCap w (xs.length+ys.length) cap e'-(xs.length+ys.length))) e').new
   simp only[World.frozen?,this];simp
  ·rw[Dj]
   have e1:(BD xs++BD (D8 P e' ys)).length=(olds++news).length:=by rw[List.length_append,List.length_append,holds.1,n1.1]
   rw[e1]
   simp only[Array.toList_append,List.toList_toArray]
   rw[List.take_left' rfl]
   refine⟨e1.symm,fun j a b h1 h2=> ?_⟩
   rw[List.getElem?_append]at h1 h2
   rw[holds.1]at h2
   split at h1
   ·rename_i hj;rw[if_pos hj]at h2;exact holds.2 j a b h1 h2
   ·rename_i hj;rw[if_neg hj]at h2;exact n1.2 _ a b h1 h2
 rcases AJg hf hLx (fun h=>by subst h;exact ho _ _ rfl)with⟨rfl,hcx,rfl⟩|⟨l,b,off,cap,cs,e1,fz,rfl,hcx,o2,o3,o4,o5,o6,o7,o8,o9⟩
 ·by_cases hm:ys.length=0
  ·have hyn:ys=[]:=List.eq_nil_of_length_eq_zero hm
   have hz:([]:List V)++D8 P e' ys=[]:=by rw[hyn];unfold D8;split<;>rfl
   refine⟨.slice none 0 0,w,rfl,hf,.inr ⟨?_,rfl,hz,rfl,rfl⟩,hzc,hzo,?_,.nil 0 hcx hz rfl⟩
   ·rw[hz,hyn];rfl
   subst hcx
   rw[hyn]at q1 q4
   exact O8 (ty:=ty) L hk hu hd q1 (q4 w rfl)
  ·obtain⟨c,w',r1,r2⟩:=out none 0 [] hcx (by simp;omega) ⟨rfl,by simp[BD]⟩ (fun w'' _=>rfl)
   have hne:ys.isEmpty=false:=by cases ys with|nil=>exact absurd rfl hm|cons _ _=>rfl
   exact⟨c,w',rfl,hf,.inl ⟨by rw[hne];rfl,fun _ hz=>hm (by rw[←hlen,←List.nil_append (D8 P e' ys),hz];rfl)⟩,hzc,hzo,r1,.fresh c w' r2⟩
 ·by_cases hroom:xs.length+ys.length≤cap
  ·subst hcx
   have hnl:news.length=ys.length*P.cellsOf e':=q3
   have hin:off+xs.length*P.cellsOf e'+news.length≤cs.size:=by
    rw[hnl,Nat.add_assoc,←Nat.add_mul]
    exact Nat.le_trans (Nat.add_le_add_left (Nat.mul_le_mul_right _ hroom) _) o5
   have hrun:=TW (ty:=ty) L hk hu hd (b:=b) (off:=off) (n:=xs.length) (cap:=cap) (m:=ys.length) (cy:=cy) (news:=news) (w:=w) q1 (q4 w rfl) hroom
    (fun j hj=>by rw[cell_of_block o4,Array.getElem?_eq_getElem (by omega)];rfl) (fun j hj=>o7 _ (by omega)) q2.oneCell
   refine⟨_,_,rfl,hf,.inl ⟨rfl,fun h=>by cases h⟩,hzc,hzo,?_,.room l b off cap cs e1 fz news rfl o2 o3 o4 o5 (by rw[hzl];exact hroom) (by rw[hzl];omega) o7 o8 o9 (by rw[hzl,hnl];congr 1;omega) ?_ hzt⟩
   ·rw[hrun,hzl]
   ·have hoc:=U6 L hLx hxs.1 o4 (Nat.le_trans (Nat.add_le_add_left (Nat.mul_le_mul_right _ o6) _) o5)
    rw[Dj]
    exact ABB hoc n1
  ·have hcx':=hcx
   subst hcx
   have hle:=Nat.le_trans (Nat.add_le_add_left (Nat.mul_le_mul_right (P.cellsOf e') o6) off) o5
   have hoc:=U6 L hLx hxs.1 o4 hle
   obtain⟨c,w',r1,r2⟩:=out _ cap ((cs.toList.drop off).take (xs.length*P.cellsOf e')) rfl (by omega) hoc (fun w'' hw=>by
    refine run_firstCells_some w'' (P.cellsOf e') xs.length _ _ cap _ (by simp;omega) fun j v hj=> ?_
    rw[addr_add]
    have hb:w''.heap[b]?=some (.cells cs e1 fz):=by rw[hw];exact o4
    rw[cell_of_block hb]
    rw[List.getElem?_take]at hj
    split at hj
    ·rw[List.getElem?_drop,Array.getElem?_toList]at hj;exact hj
    ·cases hj)
   exact⟨c,w',rfl,hf,.inl ⟨rfl,fun h=>by cases h⟩,hzc,hzo,r1,.fresh c w' r2⟩
end
end AM
end
section
namespace AM
open Go
section
variable {P:Program} {A:Ann} {g g':G} {w w':World}
theorem AppR.sr (L:Lay P) {st:St} {tm:Array Value} (S:SR P A g w st tm) {i d:Nat} {e:TypeId} {xs zs:List V} {c:Value} (hi:st.get i= .lst e .own xs) (hd:d<tm.size)
 (h:AppR P g w e xs.length (tm.getD i undef) zs c w') (hcl:AU zs=true):
 ∃g',Ext g w g' w'∧SR P A g' w' (({st with s:=insert i (st.get i).weak st.s}:St).put (some d) (.lst e .own zs)) (tm.set! d c):=by
 have S1:=S.weaken i
 have hweak:∀e' ys,({st with s:=insert i (st.get i).weak st.s}:St).get i≠ .lst e' .own ys:=by
  intro e' ys hh
  simp only[St.get]at hh hi
  rw[Bl,if_pos rfl,hi]at hh
  cases hh
 cases h with
 |nil cap h0 hz hcap=>
  have hs:=S.slot i
  rw[hi,h0]at hs
  cases hs.leaf' rfl (by simp)with
  |emp _ _ _ _ _ hs=>cases (hs rfl).1
 |fresh c w' F=>exact F.own L hcl S1 hd
 |room l b off cap cs e' fz news o1 o2 o3 o4 o5 o6 o7 o8 o9 o10 o11 o12 o13=>
  have hl:l= .inl i:=by
   rcases S.own i e xs hi with⟨len,hc⟩|⟨b',off',len',cap',cs',e1,fz',hc,h2,_⟩
   ·rw[o1]at hc;cases hc
   ·rw[o1]at hc
    simp only[Value.slice.injEq,Option.some.injEq,Addr.mk.injEq]at hc
    obtain⟨⟨rfl,_⟩,_⟩:=hc
    rw[o2]at h2;exact Option.some.inj h2
  subst hl
  have hlt:=lt_of_block o4
  have hsz:off+xs.length*P.cellsOf e+news.length≤cs.size:=by
   rw[o11,Nat.add_assoc,←Nat.add_mul,show xs.length+(zs.length-xs.length)=zs.length by omega]
   exact Nat.le_trans (Nat.add_le_add_left (Nat.mul_le_mul_right _ o6) _) o5
  obtain⟨cs2,b1,b2,b3,b4,b5,b6,b7,b8⟩:=Fj b e' fz news (off+xs.length*P.cellsOf e) w cs o4 hsz
  have hzl:=Aw L zs e fun x hx=>HT.size L (o13 x hx)
  have hn:xs.length*P.cellsOf e+news.length=zs.length*P.cellsOf e:=by
   rw[o11,←Nat.add_mul,show xs.length+(zs.length-xs.length)=zs.length by omega]
  let g2:G:=g.own b (some (.inl d)) (off+zs.length*P.cellsOf e)
  have T:Touch g w g2 (w.setCells b (off+xs.length*P.cellsOf e) news) b:=by
   refine⟨b6,b7,b8,b5,hlt,by rw[o2];simp,o3,fun b' hb'=>⟨b4 b' hb',?_⟩,fun j hj=> ?_,?_,?_,by simp[Az,o4,b1,b2],?_,rfl,rfl⟩
   ·simp[g2,G.own,hb']
   ·rw[o10,o9]at hj
    rw[cell_of_block b1,cell_of_block o4,b3,if_neg (by omega)]
   ·simp only[g2,G.own,if_true];rw[o9];omega
   ·simp only[g2,G.own,if_true];rw[o10,o9];omega
   ·simp[g2,G.own]
  have S2:=T.sr S1 (fun k e' ys hk hH=>by rw[o2]at hH;cases hH;exact hweak e' ys hk) (fun _ _ b' j _ _ _ _ _ hH=>by rw[o2]at hH;cases hH)
  refine⟨g2,T.ext,S2.put hd (.lf rfl ?_) (fun e' ys hh=> ?_) (.inl ⟨_,_,rfl⟩)⟩
  ·have hc:∀(j:Nat) (c:Value),((cs.toList.drop off).take (xs.length*P.cellsOf e)++news)[j]?=some c→(w.setCells b (off+xs.length*P.cellsOf e) news).cell? ⟨b,off+j,none⟩=some c:=by
    intro j c hj
    rw[cell_of_block b1,b3]
    have hln:((cs.toList.drop off).take (xs.length*P.cellsOf e)).length=xs.length*P.cellsOf e:=by simp;omega
    rw[List.getElem?_append,hln]at hj
    split at hj
    ·rename_i hj1
     rw[if_neg (by omega)]
     rw[List.getElem?_take,if_pos hj1,List.getElem?_drop,Array.getElem?_toList]at hj
     exact hj
    ·rename_i hj1
     have hj2:j-xs.length*P.cellsOf e<news.length:=by
      rcases Nat.lt_or_ge (j-xs.length*P.cellsOf e) news.length with h'|h'
      ·exact h'
      ·rw[List.getElem?_eq_none h']at hj;cases hj
     rw[if_pos (by omega),show off+j-(off+xs.length*P.cellsOf e)=j-xs.length*P.cellsOf e by omega]
     exact hj
   have h5:=o12.ext T.ext S.wg
   exact .lst e .own zs b off cap _ (by simp) o13 (fun _=>hcl) h5.1 hc h5.2 (by rw[b5];exact hlt)
    (by simp only[G.lim,g2,G.own,if_true];rw[h5.1,hzl];omega) o6
  ·cases hh
   refine .inr ⟨b,off,zs.length,cap,cs2,e',fz,rfl,by simp[g2,G.own],o3,b1,by rw[b2];exact o5,fun j hj=> ?_,by simp[g2,G.own],by simp[g2,G.own]⟩
   rw[b2]at hj
   have:=o8 j hj
   simp only[World.frozen?,o4]at this
   simp only[World.frozen?,b1];exact this
theorem AppR.sr_nil (L:Lay P) {st:St} {tm:Array Value} (S:SR P A g w st tm) {d n:Nat} {e:TypeId} {zs:List V} {c:Value} (hd:d<tm.size)
 (h:AppR P g w e n (.slice none 0 0) zs c w') (hcl:AU zs=true) (hne:zs≠[]):
 ∃g',Ext g w g' w'∧SR P A g' w' (st.put (some d) (.lst e .own zs)) (tm.set! d c):=by
 cases h with
 |nil cap _ hz hcap=>exact(hne hz).elim
 |fresh c w' F=>exact F.own L hcl S hd
 |room l b off cap cs e' fz news o1=>cases o1
theorem SR.voidbox {st:St} {tm:Array Value} (S:SR P A g w st tm) {bt:BT} {v:V} (hb:bt.has P v) (hu:v.under (st.h.length+1)=true) (hv:v.fl=[]):
 Ext g w (g.box none bt) w∧SR P A (g.box none bt) w {st with h:=st.h++[v]} tm:=by
 have O:Old g w (g.box none bt) w:=⟨rfl,rfl,rfl,Nat.le_refl _,fun b hb=>⟨rfl,rfl,rfl,rfl⟩,⟨_,rfl,fun b hb=>by simp at hb⟩,⟨_,rfl⟩⟩
 have B:=S.box
 have last:∀{α:Type} {l:List α} {x y:α} {i:Nat},(l++[x])[i]?=some y→(i<l.length∧l[i]?=some y)∨(i=l.length∧y=x):=by
  intro α l x y i h
  rw[List.getElem?_append]at h
  split at h
  ·exact .inl ⟨by assumption,h⟩
  ·right
   cases hi:i-l.length with
   |zero=>rw[hi]at h;simp at h;exact⟨by omega,h.symm⟩
   |succ k=>rw[hi]at h;simp at h
 have e1:=B.len
 have e2:=B.tys
 have W':WG (g.box none bt) w:=by
  refine⟨S.wg.fresh,fun i b hb=> ?_,S.wg.le⟩
  rcases last hb with⟨a1,a2⟩|⟨a1,a2⟩
  ·exact S.wg.box i b a2
  ·cases a2
 refine⟨O.ext,fun i=>(S.slot i).ext O.ext S.wg,fun i e xs h=>O.own (S.own i e xs h),S.nown,?_,W',S.glob.ext O.ext S.wg⟩
 refine⟨by simp[G.box,e1],by simp[G.box,e2],fun i j b hi hj=> ?_,fun i x t hi ht=> ?_,fun i x hi hn=> ?_,fun i x hi=> ?_,fun i x b hi hb'=> ?_⟩
 ·rcases last hi with⟨a1,a2⟩|⟨a1,a2⟩<;>rcases last hj with⟨b1,b2⟩|⟨b1,b2⟩
  ·exact B.inj i j b a2 b2
  ·cases b2
  ·cases a2
  ·omega
 ·rcases last hi with⟨a1,a2⟩|⟨a1,rfl⟩<;>rcases last ht with⟨b1,b2⟩|⟨b1,rfl⟩
  ·exact B.has i x t a2 b2
  ·omega
  ·omega
  ·exact hb
 ·rcases last hi with⟨a1,a2⟩|⟨a1,rfl⟩<;>rcases last hn with⟨b1,b2⟩|⟨b1,b2⟩
  ·exact B.void i x a2 b2
  ·omega
  ·omega
  ·exact hv
 ·rcases last hi with⟨a1,a2⟩|⟨a1,rfl⟩
  ·exact B.low i x a2
  ·rw[a1];exact hu
 ·rcases last hi with⟨a1,a2⟩|⟨a1,rfl⟩<;>rcases last hb' with⟨b1,b2⟩|⟨b1,b2⟩
  ·exact O.cells S.wg B i x b a2 b2
  ·omega
  ·omega
  ·cases b2
theorem AppR.box_nil (L:Lay P) {st:St} {tm:Array Value} (S:SR P A g w st tm) {d n:Nat} {e:TypeId} {zs:List V} {c:Value} (hd:d<tm.size)
 (h:AppR P g w e n (.slice none 0 0) zs c w') (hcl:AU zs=true) (hno:BG zs=true):
 ∃g',Ext g w g' w'∧SR P A g' w' ({st with h:=st.h++[V.row e zs]}.put (some d) (.win st.h.length [] 0 zs.length e)) (tm.set! d c):=by
 cases h with
 |nil cap _ hz hcap=>
  subst hz hcap
  obtain⟨E,S'⟩:=S.voidbox (bt:= .row e 0) (v:= .row e []) ⟨[],rfl,rfl,by simp⟩ rfl rfl
  refine⟨_,E,S'.put_noOwn (v:= .win st.h.length [] 0 0 e) hd (.lf rfl ?_) rfl⟩
  exact .win0 st.h.length [] 0 e (.row e 0) 0 0 none 0 (by simp only[G.box];rw[S.box.tys,List.getElem?_append_right (Nat.le_refl _)];simp) rfl (Nat.le_refl _) (fun _=>rfl)
 |fresh c w' F=>exact F.box L (DK 0 zs hcl) (Lp hno) S hd
 |room l b off cap cs e' fz news o1=>cases o1
theorem AEf (L:Lay P) {st:St} {tm:Array Value} (S:SR P A g w st tm) {d:Nat} (hd:d<tm.size) {t:TypeId} (ht:K P t≠ .bad):
 ∃c w' g',(Instr.alloc t true (.tuple #[])).run P w= .ok c w'∧Ext g w g' w'∧SR P A g' w' ({st with h:=st.h++[zero P t]}.put (some d) (.ref st.h.length [] t)) (tm.set! d c):=by
 obtain⟨i,z,z1,z2,z3,z4,z5,z6,z7,z8⟩:=Gh (w:=w) L ht
 have N:=New.of_alloc w z.cells t
 have hfl:(zero P t).fl.length=z.cells.size:=by rw[HT.size L z3,z8]
 obtain⟨E,S'⟩:=S.newbox L N (bt:= .var t) (v:=zero P t) z3 (z5 _) (by omega) (fun j hj=>by simp only[World.frozen?,N.new];simp)
  (by rw[hfl,←Array.length_toList,List.take_length];exact z4 g w)
  (fun j e xs hj=>by rw[Jj,List.all_eq_true]at z6;have:=z6 _ (List.mem_of_getElem? hj);simp[V.noOwn]at this)
 refine⟨.pointer (some ⟨w.heap.size,0,none⟩),w.alloc (.cells z.cells t),_,?_,E,S'.put_noOwn (v:= .ref st.h.length [] t) hd (.lf rfl ?_) rfl⟩
 ·simp only[Instr.alloc,Sem.run_bind,z7,Result.andThen_ok]
  rfl
 ·exact .ref st.h.length [] t (.var t) 0 w.heap.size (by simp only[G.box];rw[S.box.tys,List.getElem?_append_right (Nat.le_refl _)];simp) rfl
   (by simp only[G.box];rw[S.box.len,List.getElem?_append_right (Nat.le_refl _)];simp)
theorem AMk (L:Lay P) {st:St} {tm:Array Value} (S:SR P A g w st tm) {d:Nat} (hd:d<tm.size) {t:TypeId} {x:V} {cx:Value} (hx:VR P g w x cx) (hok:Bc P t (cp P t x)=true) (hu:(cp P t x).under st.h.length=true):
 ∃c w' g',(Instr.box t cx).run P w= .ok c w'∧Ext g w g' w'∧SR P A g' w' ({st with h:=st.h++[cp P t x]}.put (some d) (.ref st.h.length [] t)) (tm.set! d c):=by
 have hx':VR P g w (cp P t x) cx∧(cp P t x).noOwn=true:=by
  have hVR:VR P g w (cp P t x) cx:=by unfold cp;split;exact hx.weak;exact hx
  refine⟨hVR,?_⟩
  by_cases hs:CS P depth t=true
  ·have e:cp P t x=x.weak:=by unfold cp;rw[if_pos hs]
   rw[e];exact hx.noOwn_weak
  ·exact HT.noOwn depth (by simpa using hs) (Fp hok hVR).1
 obtain⟨ht,ha⟩:=Fp hok hx'.1
 have hLR:=ha.cells L ht
 have N:=New.of_alloc w cx.cells t
 have hfl:(cp P t x).fl.length=cx.cells.size:=by have:=hLR.1;simpa using this.symm
 obtain⟨E,S'⟩:=S.newbox L N (bt:= .var t) (v:=cp P t x) ht (Ff (Nat.le_succ _) _ hu) (by omega) (fun j hj=>by simp only[World.frozen?,N.new];simp)
  (by rw[hfl,←Array.length_toList,List.take_length];exact hLR)
  (fun j e xs hj=>by have h6:=hx'.2;rw[Jj,List.all_eq_true]at h6;have:=h6 _ (List.mem_of_getElem? hj);simp[V.noOwn]at this)
 refine⟨.pointer (some ⟨w.heap.size,0,none⟩),w.alloc (.cells cx.cells t),_,rfl,E,S'.put_noOwn (v:= .ref st.h.length [] t) hd (.lf rfl ?_) rfl⟩
 exact .ref st.h.length [] t (.var t) 0 w.heap.size (by simp only[G.box];rw[S.box.tys,List.getElem?_append_right (Nat.le_refl _)];simp) rfl
  (by simp only[G.box];rw[S.box.len,List.getElem?_append_right (Nat.le_refl _)];simp)
end
end AM
end
section
namespace AM
open Go
section
variable {P:Program} {A:Ann} {g g':G} {w w':World}
theorem SR.write {st:St} {tm:Array Value} (S:SR P A g w st tm) {id b o:Nat} {v0 v0':V} {ls:List V} {cs:List Value} (hv0:st.h[id]?=some v0) (h3:g.β[id]?=some (some b))
 (hhas:∀bt,g.ty[id]?=some bt→bt.has P v0') (hlow:v0'.under (id+1)=true) (hlen:o+cs.length≤v0.fl.length) (hln:v0'.fl.length=v0.fl.length)
 (hfl:∀k,v0'.fl[k]?=if o≤k∧k<o+cs.length then ls[k-o]? else v0.fl[k]?) (hl:LRs P g w ls cs)
 (ho:∀(j:Nat) (c:Value) e xs,ls[j]?=some (.lst e .own xs)→cs[j]?=some c→Own P g w e xs.length c (.inr (b,o+j))):
 Ext g w g (w.setCells b o cs)∧SR P A g (w.setCells b o cs) {st with h:=st.h.set id v0'} tm∧
  (∀j,j<cs.length→(w.cell? ⟨b,o+j,none⟩).isSome=true)∧(∀j,j<cs.length→w.frozen? ⟨b,o+j,none⟩=false):=by
 have B:=S.box
 obtain⟨cs0,e0,fz,c1,c2,c3,c4⟩:=B.cells id v0 b hv0 h3
 obtain⟨cs2,b1,b2,b3,b4,b5,b6,b7,b8⟩:=Fj b e0 fz cs o w cs0 c1 (by omega)
 obtain⟨w1,w2,w3,w4⟩:=S.wg.box id b h3
 have hbin:some b∈g.β:=List.mem_of_getElem? h3
 have E:Ext g w g (w.setCells b o cs):=by
  refine⟨b6,b7,b8,by rw[b5];exact Nat.le_refl _,fun b' hb h1 h2=> ?_,fun b' hb=>⟨fun j hj=> ?_,Nat.le_refl _,Nat.le_refl _,fun h=>h⟩,⟨[],by simp⟩,⟨[],by simp⟩,fun b' hb=> ?_⟩
  rotate_left 2
  ·by_cases hne:b'=b
   ·subst hne;simp[Az,c1,b1,b2]
   ·simp[Az,b4 b' hne]
  ·have hne:b'≠b:=by rintro rfl;exact h2 hbin
   exact⟨b4 b' hne,h1,h2,rfl,rfl⟩
  ·have hne:b'≠b:=by rintro rfl;omega
   exact KJ (b4 b' hne) j
 have own:∀{e n c l},Own P g w e n c l→Own P g (w.setCells b o cs) e n c l:=by
  intro e n c l h
  rcases h with h|⟨b',off,len,cap,cs',e',fz',h1,h2,h3',h4,h5,h6,h7,h8⟩
  ·exact .inl h
  ·have hne:b'≠b:=by rintro rfl;exact h3' hbin
   exact .inr ⟨b',off,len,cap,cs',e',fz',h1,h2,h3',by rw[b4 b' hne];exact h4,h5,fun j hj=>by rw[CP (b4 b' hne)];exact h6 j hj,h7,h8⟩
 have hid:id<st.h.length:=by
  rcases Nat.lt_or_ge id st.h.length with h'|h'
  ·exact h'
  ·rw[List.getElem?_eq_none h']at hv0;cases hv0
 have get:∀{i x},(st.h.set id v0')[i]?=some x→(i=id∧x=v0')∨(i≠id∧st.h[i]?=some x):=by
  intro i x h
  rw[List.getElem?_set]at h
  split at h
  ·rename_i hi;subst hi
   simp[hid]at h
   exact .inl ⟨rfl,h.symm⟩
  ·rename_i hi;exact .inr ⟨fun e=>hi e.symm,h⟩
 refine⟨E,⟨fun i=>(S.slot i).ext E S.wg,fun i e xs h=>own (S.own i e xs h),S.nown,?_,?_,S.glob.ext E S.wg⟩,fun j hj=> ?_,fun j hj=>c3 _ (by omega)⟩
 ·refine⟨by simp[B.len],by simp[B.tys],B.inj,fun i x bt hx ht=> ?_,fun i x hx hn=> ?_,fun i x hx=> ?_,fun i x b' hx hb'=> ?_⟩
  ·rcases get hx with⟨rfl,rfl⟩|⟨hi,hx⟩
   ·exact hhas bt ht
   ·exact B.has i x bt hx ht
  ·rcases get hx with⟨rfl,rfl⟩|⟨hi,hx⟩
   ·rw[h3]at hn;cases hn
   ·exact B.void i x hx hn
  ·rcases get hx with⟨rfl,rfl⟩|⟨hi,hx⟩
   ·exact hlow
   ·exact B.low i x hx
  ·rcases get hx with⟨rfl,rfl⟩|⟨hi,hx⟩
   ·rw[h3]at hb';cases hb'
    refine⟨cs2,e0,fz,b1,by rw[b2];omega,fun j hj=> ?_,fun j y hy=> ?_⟩
    ·rw[b2]at hj
     have:=c3 j hj
     simp only[World.frozen?,c1]at this
     simp only[World.frozen?,b1];exact this
    ·rw[hfl]at hy
     by_cases hk:o≤j∧j<o+cs.length
     ·rw[if_pos hk]at hy
      have hc:cs[j-o]?=some (cs[j-o]'(by omega)):=List.getElem?_eq_getElem _
      refine⟨_,by rw[b3,if_pos hk];exact hc,(hl.2 _ _ _ hy hc).ext E S.wg,fun e xs hh=> ?_⟩
      subst hh
      have:=ho _ _ e xs hy hc
      rw[show o+(j-o)=j by omega]at this
      exact own this
     ·rw[if_neg hk]at hy
      obtain⟨c,d1,d2,d3⟩:=c4 j y hy
      exact⟨c,by rw[b3,if_neg hk];exact d1,d2.ext E S.wg,fun e xs hh=>own (d3 e xs hh)⟩
   ·have hne:b'≠b:=by
     rintro rfl
     exact hi (B.inj i id b' hb' h3)
    obtain⟨cs',e,fz',c1',c2',c3',c4'⟩:=B.cells i x b' hx hb'
    refine⟨cs',e,fz',by rw[b4 b' hne];exact c1',c2',fun j hj=>by rw[CP (b4 b' hne)];exact c3' j hj,fun j y hy=> ?_⟩
    obtain⟨c,d1,d2,d3⟩:=c4' j y hy
    exact⟨c,d1,d2.ext E S.wg,fun e xs hh=>own (d3 e xs hh)⟩
 ·exact⟨fun b' hb=>S.wg.fresh b' (by rw[b5]at hb;exact hb),fun i b' hb=>by rw[b5];exact S.wg.box i b' hb,S.wg.le⟩
 ·rw[cell_of_block c1,Array.getElem?_eq_getElem (by omega)];rfl
theorem SR.wr (L:Lay P) {st:St} {tm:Array Value} (S:SR P A g w st tm) {id b o:Nat} {p:List Nat} {bt:BT} {t:TypeId} {v:V} {cs:List Value} {h':List V} (h1:g.ty[id]?=some bt) (h2:bt.var? P p=some (o,t))
 (h3:g.β[id]?=some (some b)) (ht:HT P t v) (hl:LRs P g w v.fl cs) (ho:∀(j:Nat) (c:Value) e xs,v.fl[j]?=some (.lst e .own xs)→cs[j]?=some c→Own P g w e xs.length c (.inr (b,o+j)))
 (hu:v.under (id+1)=true) (hw:wr st.h id p v=some h'):
 Ext g w g (w.setCells b o cs)∧SR P A g (w.setCells b o cs) {st with h:=h'} tm∧
  (∀j,j<cs.length→(w.cell? ⟨b,o+j,none⟩).isSome=true)∧(∀j,j<cs.length→w.frozen? ⟨b,o+j,none⟩=false):=by
 unfold AM.wr at hw
 obtain⟨v0,hv0,hw⟩:=Option.bind_eq_some_iff.1 hw
 obtain⟨v0',hu',rfl⟩:=Option.map_eq_some_iff.1 hw
 have hb:=S.box.has id v0 bt hv0 h1
 obtain⟨r1,r2,r3⟩:=hb.upd L h2 ht hu'
 have hsz:=hb.size L
 have hcs:cs.length=P.cellsOf t:=by rw[hl.1,HT.size L ht]
 have hln:v0'.fl.length=v0.fl.length:=by rw[r1.size L,hsz]
 refine S.write hv0 h3 (fun bt' hbt=>by rw[h1]at hbt;cases hbt;exact r1) ?_ (by omega) hln (by rw[hcs];exact r3) hl ho
 rw[CB,List.all_eq_true]
 intro x hx
 obtain⟨k,hk,rfl⟩:=List.mem_iff_getElem.1 hx
 have hg:v0'.fl[k]?=some v0'.fl[k]:=List.getElem?_eq_getElem hk
 rw[r3]at hg
 split at hg
 ·rw[CB,List.all_eq_true]at hu;exact hu _ (List.mem_of_getElem? hg)
 ·have:=S.box.low id v0 hv0
  rw[CB,List.all_eq_true]at this;exact this _ (List.mem_of_getElem? hg)
theorem Hz (L:Lay P) {t:TypeId} {v:V} {cv:Value} {b o:Nat} (ht:HT P t v) (ha:AR P g w v cv) (hc:∀j,j<cv.cells.size→(w.cell? ⟨b,o+j,none⟩).isSome=true) (hf:∀j,j<cv.cells.size→w.frozen? ⟨b,o+j,none⟩=false):
 (Instr.storeAt t (.pointer (some ⟨b,o,none⟩)) cv).run P w= .ok () (w.setCells b o cv.cells.toList):=by
 have hl:=ha.cells L ht
 have hs:cv.cells.size=P.cellsOf t:=by have:=hl.1;rw[HT.size L ht]at this;simpa using this
 have hst:=run_storeCells_cells (P:=P) b o cv.cells.toList 0 w (by simpa using hc) (by simpa using hf) hl.oneCell
 simp only[Nat.add_zero]at hst
 simp only[Instr.storeAt,Instr.sureAddr,Sem.run_bind,Sem.run_pure,Result.andThen_ok,storeVar,run_sizeOf ht.K_ne,Sem.run_ite]
 rw[if_neg (by simp[hs])]
 simp[hst]
theorem SR.hand {st:St} {tm:Array Value} (S:SR P A g w st tm) {e:TypeId} {n:Nat} {c:Value} {l l':Nat⊕(Nat×Nat)} (ho:Own P g w e n c l) (hs:∀k e xs,st.get k= .lst e .own xs→l≠ .inl k)
 (hc:∀(i:Nat) (v:V) (b' j:Nat) e xs,st.h[i]?=some v→g.β[i]?=some (some b')→v.fl[j]?=some (.lst e .own xs)→l≠ .inr (b',j)):
 ∃g',Ext g w g' w∧SR P A g' w st tm∧Own P g' w e n c l'∧g'.β=g.β∧g'.ty=g.ty:=by
 rcases ho with h|⟨b,off,len,cap,cs,e',fz,h1,h2,h3,h4,h5,h6,h7,h8⟩
 ·exact⟨g,Ext.refl g w,S,.inl h,rfl,rfl⟩
 ·let g2:G:={g with H:=fun x=>if x=b then some l' else g.H x}
  have T:Touch g w g2 w b:=⟨rfl,rfl,rfl,rfl,lt_of_block h4,by rw[h2];simp,h3,fun b' hb'=>by simp[g2,hb'],fun _ _=>rfl,Nat.le_refl _,Nat.le_refl _,Nat.le_refl _,S.wg.le b,rfl,rfl⟩
  refine⟨g2,T.ext,T.sr S (fun k e xs hk=>by rw[h2];intro hh;exact hs k e xs hk (Option.some.inj hh)) (fun i v b' j e xs a1 a2 a3=>by rw[h2];intro hh;exact hc i v b' j e xs a1 a2 a3 (Option.some.inj hh)),?_,rfl,rfl⟩
  exact .inr ⟨b,off,len,cap,cs,e',fz,h1,by simp[g2],h3,h4,h5,h6,h7,h8⟩
theorem SR.ev_own {st:St} {a:Act} (S:SR P A g w st a.tmps) (t:TypeId) (x:Operand):(st.ev P A t x).noOwn=true∨∃i e xs,x= .tmp i∧st.ev P A t x= .lst e .own xs∧st.get i= .lst e .own xs∧a.eval x=a.tmps.getD i undef∧Own P g w e xs.length (a.eval x) (.inl i):=by
 cases x with
 |tmp i=>
  rcases S.nown i with⟨e,xs,h⟩|h
  ·exact .inr ⟨i,e,xs,rfl,h,h,rfl,S.own i e xs h⟩
  ·exact .inl h
 |const c=>exact .inl (VR.cst (P:=P) (g:=g) (w:=w) t c).2
 |global i=>
  left
  simp only[St.ev]
  split<;>rfl
 |func f=>exact .inl rfl
theorem SR.give' {st:St} {a:Act} (S:SR P A g w st a.tmps) (x:Operand):SR P A g w (st.give x) a.tmps:=by
 cases x with
 |tmp i=>exact S.weaken i
 |const c=>exact S
 |global i=>exact S
 |func f=>exact S
theorem AQ2 (st:St) (x:Operand):(st.give x).h=st.h:=by cases x<;>rfl
theorem ADc {st:St} (i:Nat) {tm:Array Value} (S:SR P A g w st tm):∀k e xs,({st with s:=insert i (st.get i).weak st.s}:St).get k= .lst e .own xs→(Sum.inl i:Nat⊕(Nat×Nat))≠ .inl k:=by
 intro k e xs h hk
 cases hk
 simp only[St.get]at h
 rw[Bl,if_pos rfl]at h
 have:=(S.slot i).noOwn_weak
 simp only[St.get]at this
 rw[h]at this;simp[V.noOwn]at this
theorem AEg (L:Lay P) {st:St} {a:Act} (S:SR P A g w st a.tmps) {t:TypeId} {ao x:Operand} {h':List V} (hs:FW P st.h t (st.ev P A 0 ao) (st.ev P A t x)=some h'):
 ∃w' g',(Instr.storeAt t (a.eval ao) (a.eval x)).run P w= .ok () w'∧Ext g w g' w'∧SR P A g' w' {(st.give x)with h:=h'} a.tmps:=by
 unfold FW at hs
 split at hs
 case h_2=>cases hs
 rename_i id p t' hao
 split at hs
 case isFalse=>cases hs
 rename_i ht'
 subst ht'
 split at hs
 case isFalse=>cases hs
 rename_i hc
 simp only[Bool.and_eq_true]at hc
 obtain⟨hok,hu⟩:=hc
 have hVa:=S.ev 0 ao
 rw[hao]at hVa
 generalize hca:a.eval ao=ca at hVa
 cases hVa.leaf' rfl (by simp)with
 |ref _ _ _ bt o b h1 h2 h3=>
  obtain⟨ht,ha⟩:=Fp hok (S.ev t' x)
  have hl:=ha.cells L ht
  have S1:=S.give' x
  have hwr:wr (st.give x).h id p (st.ev P A t' x)=some h':=by rw[AQ2];exact hs
  rcases S.ev_own t' x with hno|⟨i,e,xs,rfl,hx,hxi,htm,hown⟩
  ·obtain⟨E,S2,q1,q2⟩:=S1.wr L h1 h2 h3 ht hl (fun j c e xs hj _=>by rw[Jj,List.all_eq_true]at hno;have:=hno _ (List.mem_of_getElem? hj);simp[V.noOwn]at this) hu hwr
   exact⟨_,g,Hz L ht ha (by simpa using q1) (by simpa using q2),E,S2⟩
  ·obtain⟨g2,E1,S2,o2,e1,e2⟩:=S1.hand (l':= .inr (b,o)) hown (ADc i S) (fun _ _ _ _ _ _ _ _ _ hh=>by cases hh)
   have hl2:=hl.ext E1 S.wg
   obtain⟨E,S3,q1,q2⟩:=S2.wr L (by rw[e2];exact h1) h2 (by rw[e1];exact h3) ht hl2 (fun j c e' xs' hj hcj=>by
    rw[hx]at hj
    have hj0:j=0:=by
     cases j with
     |zero=>rfl
     |succ j=>simp[V.fl]at hj
    subst hj0
    simp[V.fl]at hj
    obtain⟨rfl,rfl⟩:=hj
    rw[hx]at ha
    have hcc:(a.eval (.tmp i)).cells= #[a.eval (.tmp i)]:=Fe (ha.leaf' rfl).oneCell
    rw[hcc]at hcj
    simp at hcj
    subst hcj
    simpa using o2) hu hwr
   exact⟨_,g2,Hz L ht ha (by simpa using q1) (by simpa using q2),E1.trans E,S3⟩
end
end AM
end
section
namespace AM
open Go
section
variable {P:Program} {A:Ann} {g g':G} {w w':World}
theorem XT {b o:Nat} {c:Value} (h:w.cell? ⟨b,o,none⟩=some c):w.setCell ⟨b,o,none⟩ c=w:=by
 unfold World.cell? at h
 split at h
 ·rename_i cs e fz hb
  simp only[Option.isSome_none,Bool.false_eq_true,if_false]at h
  have hh:w.heap.modify b (fun
   | .cells cs e fz=> .cells (cs.setIfInBounds o c) e fz
   |o=>o)=w.heap:=by
   apply Array.ext_getElem?
   intro i
   rw[Array.getElem?_modify]
   split
   ·rename_i hi;subst hi
    have hb':w.heap[b]?=some (.cells cs e fz):=hb
    rw[hb']
    simp only[Option.map_some]
    have hs:cs.setIfInBounds o c=cs:=by
     apply Array.ext_getElem?
     intro j
     rw[Array.getElem?_setIfInBounds]
     split
     ·rename_i hj;subst hj
      have h':cs[o]?=some c:=h
      rw[h']
      split
      ·rfl
      ·rename_i hlt
       rw[Array.getElem?_eq_none (by omega)]at h';cases h'
     ·rfl
    rw[hs]
   ·rfl
  unfold World.setCell
  simp only
  exact congrArg (fun hp=>({w with heap:=hp}:World)) hh
 ·cases h
theorem AEh {st:St} {a:Act} (S:SR P A g w st a.tmps) {d:Nat} (hd:d<a.tmps.size) (t:TypeId) (x:Operand):
 ∃g',Ext g w g' w∧SR P A g' w ((st.give x).put (some d) (st.ev P A t x)) (a.tmps.set! d (a.eval x)):=by
 have S1:=S.give' x
 rcases S.ev_own t x with hno|⟨i,e,xs,rfl,hx,hxi,htm,hown⟩
 ·exact⟨g,Ext.refl g w,S1.put_noOwn hd (S.ev t x) hno⟩
 ·obtain⟨g2,E1,S2,o2,e1,e2⟩:=S1.hand (l':= .inl d) hown (ADc i S) (fun _ _ _ _ _ _ _ _ _ hh=>by cases hh)
  refine⟨g2,E1,S2.put hd ((S.ev t (.tmp i)).ext E1 S.wg) (fun e' xs' hh=> ?_) (.inl ⟨e,xs,hx⟩)⟩
  rw[hx]at hh;cases hh
  exact o2
theorem AJi {st:St} {a:Act} (S:SR P A g w st a.tmps) (t:TypeId) (x:Operand) (h:CS P depth t=false→(st.ev P A t x).noOwn=true):
 VR P g w (cp P t (st.ev P A t x)) (a.eval x)∧(cp P t (st.ev P A t x)).noOwn=true:=by
 unfold cp
 split
 ·exact⟨(S.ev t x).weak,(S.ev t x).noOwn_weak⟩
 ·rename_i hs;exact⟨S.ev t x,h (by simpa using hs)⟩
theorem ABC (L:Lay P) {st:St} {a:Act} (S:SR P A g w st a.tmps) {d:Nat} (hd:d<a.tmps.size) {t e:TypeId} (hk:K P t= .slice e) {ao:Operand} {v:V} {h':List V} (h:BR st.h t (st.ev P A 0 ao)=some (v,h')):
 ∃c g',(Instr.loadAt t (a.eval ao)).run P w= .ok c w∧Ext g w g' w∧SR P A g' w ({st with h:=h'}.put (some d) v) (a.tmps.set! d c):=by
 unfold BR at h
 split at h
 case h_2=>cases h
 rename_i id p t' hao
 split at h
 case isFalse=>cases h
 rename_i ht'
 subst ht'
 obtain⟨v1,hr,h⟩:=Option.bind_eq_some_iff.1 h
 obtain⟨h1',hw,he⟩:=Option.map_eq_some_iff.1 h
 obtain⟨rfl,rfl⟩:=Prod.mk.inj he
 have hVa:=S.ev 0 ao
 rw[hao]at hVa
 generalize hca:a.eval ao=ca at hVa
 cases hVa.leaf' rfl (by simp)with
 |ref _ _ _ bt o b h1 h2 h3=>
  obtain⟨ht,cs,r1,r2⟩:=S.box.read L h1 h2 h3 hr
  obtain⟨c,hc,har⟩:=Jh L ht r1 r2
  have hrun:(Instr.loadAt t' (.pointer (some ⟨b,o,none⟩))).run P w= .ok c w:=by simp[Instr.loadAt,Instr.sureAddr,hc]
  have hlf:v1.leafy=true:=ht.leafy_of (fun u fs hh=>by rw[hk]at hh;cases hh) (fun u n e hh=>by rw[hk]at hh;cases hh)
  have hfl:v1.fl=[v1]:=by cases v1<;>first|rfl|(simp[V.leafy]at hlf)
  have hwl:v1.weak.fl=[v1.weak]:=by have:=SE hlf;cases hh:v1.weak<;>first|rfl|(rw[hh]at this;simp[V.leafy]at this)
  have hcs:cs=[c]:=by
   have hl:=r1.1;rw[hfl]at hl
   cases cs with
   |nil=>simp at hl
   |cons c0 cs=>
    have:cs=[]:=by simpa using hl
    subst this
    have hcell:=r2 0 c0 rfl
    have hag:(isAgg t').run P w= .ok false w:=D5 hk
    simp only[loadVar,Sem.run_bind,hag,Result.andThen_ok,Bool.false_eq_true,if_false]at hc
    rw[Nat.add_zero]at hcell
    simp[hcell]at hc
    rw[hc]
  subst hcs
  have hcell:w.cell? ⟨b,o,none⟩=some c:=by have:=r2 0 c rfl;simpa using this
  have hlr:LR P g w v1 c:=har.leaf' hlf
  obtain⟨v0,hv0,hat⟩:=Option.bind_eq_some_iff.1 hr
  have hbt:=S.box.has id v0 bt hv0 h1
  obtain⟨_,hin,hleaf⟩:=hbt.at L h2 hat
  have hsz:P.cellsOf t'=1:=(L.slice t' e hk).1
  have hfo:v0.fl[o]?=some v1:=by have:=hleaf 0 (by omega);rw[hfl]at this;simpa using this
  have hlow:v1.weak.under (id+1)=true:=by
   have:=S.box.low id v0 hv0
   rw[CB,List.all_eq_true]at this
   have hu:=this _ (List.mem_of_getElem? hfo)
   cases v1 with
   |lst e f xs=>cases f<;>first|rfl|exact hu
   |agg=>simp[V.leafy]at hlf
   |row=>simp[V.leafy]at hlf
   |_=>exact hu
  obtain⟨E,S2,_,_⟩:=S.wr L (cs:=[c]) h1 h2 h3 ht.weak (by rw[hwl];exact⟨rfl,fun j x y a1 a2=>by
   cases j with
   |zero=>simp at a1 a2;subst a1 a2;exact hlr.weak
   |succ j=>simp at a1⟩)
   (fun j y e' xs' a1 _=>by
    rw[hwl]at a1
    cases j with
    |zero=>simp at a1;have:=hlr.weak;have hn:=(AR.leaf hlf hlr).noOwn_weak;rw[a1]at hn;simp[V.noOwn]at hn
    |succ j=>simp at a1) hlow hw
  have hset:w.setCells b o [c]=w:=XT hcell
  rw[hset]at S2 E
  by_cases hown:∃e' xs,v1= .lst e' .own xs
  ·obtain⟨e',xs,rfl⟩:=hown
   obtain⟨cs0,e0,fz,c1,c2,c3,c4⟩:=S.box.cells id v0 b hv0 h3
   obtain⟨c',d1,d2,d3⟩:=c4 o _ hfo
   rw[cell_of_block c1,d1]at hcell
   cases hcell
   have ho:=d3 e' xs rfl
   obtain⟨g2,E1,S3,o2,_,_⟩:=S2.hand (l':= .inl d) ho (fun _ _ _ _ hh=>by cases hh) (fun i v b' j e2 xs2 a1 a2 a3 hh=>by
    simp only[Sum.inr.injEq,Prod.mk.injEq]at hh
    obtain⟨rfl,rfl⟩:=hh
    have hid:=S.box.inj i id _ a2 h3
    subst hid
    have hwr:=hw
    unfold AM.wr at hwr
    obtain⟨v00,hv00,hwr⟩:=Option.bind_eq_some_iff.1 hwr
    obtain⟨v0',hup,rfl⟩:=Option.map_eq_some_iff.1 hwr
    rw[hv0]at hv00;cases hv00
    obtain⟨_,_,q⟩:=hbt.upd L h2 ht.weak hup
    have hi:i<st.h.length:=by
     rcases Nat.lt_or_ge i st.h.length with h'|h'
     ·exact h'
     ·rw[List.getElem?_eq_none h']at hv0;cases hv0
    have e3:v=v0':=by simpa [hi]using a1.symm
    subst e3
    rw[q,if_pos ⟨Nat.le_refl _,by omega⟩,Nat.sub_self,hwl]at a3
    simp[V.weak]at a3)
   refine⟨_,g2,hrun,E1,S3.put hd (.val (har.ext E1 S.wg)) (fun e2 xs2 hh=> ?_) (.inl ⟨_,_,rfl⟩)⟩
   cases hh;exact o2
  ·refine⟨c,g,hrun,Ext.refl g w,S2.put_noOwn hd (.val har) ?_⟩
   cases v1 with
   |lst e f xs=>cases f<;>first|rfl|exact(hown ⟨_,_,rfl⟩).elim
   |agg=>simp[V.leafy]at hlf
   |row=>simp[V.leafy]at hlf
   |tup=>simp[V.leafy]at hlf
   |_=>rfl
end
end AM
end
section
namespace AM
open Go
section
variable {P:Program} {A:Ann} {g g':G} {w w':World}
theorem Src.readN {ys:List V} {c:Value} {e:TypeId} (L:Lay P) (h:Src P g w ys c) (ht:∀y∈ys,HT P e y):
 (Builtin.lenOf c).run P w= .ok ys.length w∧∃news:List Value,LRs P g w (BD ys) news∧news.length=ys.length*P.cellsOf e∧
  ∀n,n≤ys.length→(Builtin.firstCells (P.cellsOf e) n c).run P w= .ok (news.take (n*P.cellsOf e)).toArray w:=by
 have hl:=Aw L ys e fun y hy=>HT.size L (ht y hy)
 cases h with
 |nil a cap=>
  refine⟨rfl,[],⟨rfl,by simp[BD]⟩,by simp,fun n hn=> ?_⟩
  have:n=0:=by simpa using hn
  subst this
  cases a with
  |none=>simp[Builtin.firstCells]
  |some a=>simp[Builtin.firstCells,loadCells,loadCellsFrom]
 |cells _ b off cap cs h1 h2=>
  have hc:cs.length=ys.length*P.cellsOf e:=by rw[h1.1,hl]
  refine⟨rfl,cs,h1,hc,fun n hn=> ?_⟩
  have hle:n*P.cellsOf e≤ys.length*P.cellsOf e:=Nat.mul_le_mul_right _ hn
  refine run_firstCells_some w (P.cellsOf e) n _ _ cap _ (by simp;omega) fun j v hj=> ?_
  rw[addr_add]
  rw[List.getElem?_take]at hj
  split at hj
  ·exact h2 j v hj
  ·cases hj
 |str s=>
  have hs:(bytesOf s.data.toList).length=s.size:=by simp[bytesOf]
  have hb:=OH (P:=P) (g:=g) (w:=w) s.data.toList
  have hc:(s.data.toList.map fun b=>Value.int .u8 b.toNat).length=(bytesOf s.data.toList).length*P.cellsOf e:=by rw[hb.1,hl]
  refine⟨by simp[Builtin.lenOf,hs],_,hb,hc,fun n hn=> ?_⟩
  simp only[Builtin.firstCells,Sem.run_pure]
  congr 1
  have hn':n*P.cellsOf e=n∨n=0:=by
   rw[List.length_map,hs]at hc
   have e1:s.data.toList.length=s.size:=rfl
   rw[e1]at hc
   by_cases h0:s.size=0
   ·right;rw[hs]at hn;omega
   ·left
    have:P.cellsOf e=1:=Nat.eq_of_mul_eq_mul_left (Nat.pos_of_ne_zero h0) (by omega)
    rw[this,Nat.mul_one]
  have hx:(s.extract 0 n).data.toList=s.data.toList.take n:=by
   simp[ByteArray.data_extract]
  apply Array.ext'
  rw[Array.toList_map,hx]
  rcases hn' with h'|h'
  ·rw[h',List.map_take]
  ·subst h';simp
theorem V.upd_at_self (p:List Nat):∀{v x:V},V.at p v=some x→V.upd p v x=some v:=by
 induction p with
 |nil=>intro v x h;simp[V.at]at h;subst h;rfl
 |cons i p ih=>
  intro v x h
  have set:∀(fs:List V) (y:V),fs[i]?=some y→fs.set i y=fs:=by
   intro fs y hy
   apply List.ext_getElem?
   intro j
   rw[List.getElem?_set]
   split
   ·rename_i hij;subst hij
    rw[hy]
    have:i<fs.length:=by
     rcases Nat.lt_or_ge i fs.length with h'|h'
     ·exact h'
     ·rw[List.getElem?_eq_none h']at hy;cases hy
    simp[this]
   ·rfl
  cases v with
  |agg t fs=>
   simp only[V.at]at h
   obtain⟨y,hy,h⟩:=Option.bind_eq_some_iff.1 h
   simp only[V.upd,hy,Option.bind_some,ih h,Option.map_some,set fs y hy]
  |row t fs=>
   simp only[V.at]at h
   obtain⟨y,hy,h⟩:=Option.bind_eq_some_iff.1 h
   simp only[V.upd,hy,Option.bind_some,ih h,Option.map_some,set fs y hy]
  |_=>simp[V.at]at h
theorem ATu {h:List V} {id:Nat} {p:List Nat} {v:V} (hr:rd h id p=some v):wr h id p v=some h:=by
 unfold rd at hr
 obtain⟨v0,hv0,hat⟩:=Option.bind_eq_some_iff.1 hr
 simp only[wr,hv0,Option.bind_some,V.upd_at_self p hat,Option.map_some,Option.some.injEq]
 apply List.ext_getElem?
 intro j
 rw[List.getElem?_set]
 split
 ·rename_i hij;subst hij
  have:id<h.length:=by
   rcases Nat.lt_or_ge id h.length with h'|h'
   ·exact h'
   ·rw[List.getElem?_eq_none h']at hv0;cases hv0
  rw[hv0];simp[this]
 ·rfl
theorem NG (L:Lay P) {dT sT ty e:TypeId} (hk:K P dT= .slice e) {a:Option Addr} {dLen dCap m:Nat} {cy:Value} {cs:List Value} {w':World}
 (hlen:(Builtin.lenOf cy).run P w= .ok m w) (hf:(Builtin.firstCells (P.cellsOf e) (Nat.min m dLen) cy).run P w= .ok cs.toArray w)
 (hst:∀x,a=some x→(storeCells x cs).run P w= .ok () w') (hn:a=none→w'=w):
 (Builtin.copy_ #[dT,sT] ty #[.slice a dLen dCap,cy]).run P w= .ok (goInt (Nat.min m dLen)) w':=by
 have e0:(#[dT,sT]:Array TypeId)[0]?=some dT:=rfl
 have a0:(#[.slice a dLen dCap,cy]:Array Value)[0]?=some (.slice a dLen dCap):=rfl
 have a1:(#[.slice a dLen dCap,cy]:Array Value)[1]?=some cy:=rfl
 unfold Builtin.copy_
 simp only[e0,a0,a1,Sem.run_bind,Ad (Df hk),run_sizeOf (L.slice _ _ hk).2,Result.andThen_ok,hlen,hf]
 cases a with
 |none=>rw[hn rfl];rfl
 |some x=>
  simp only[Sem.run_bind,List.toList_toArray,hst x rfl,Result.andThen_ok,Sem.run_pure]
theorem AMl (L:Lay P) {e:TypeId} {xs ys:List V} (hx:∀x∈xs,HT P e x) (hy:∀y∈ys,HT P e y) {off n:Nat} (hoff:off+n≤xs.length) (hn:n≤ys.length):
 (xs.take off++ys.take n++xs.drop (off+n)).length=xs.length∧(∀z∈xs.take off++ys.take n++xs.drop (off+n),HT P e z)∧
 ∀k,(BD (xs.take off++ys.take n++xs.drop (off+n)))[k]?=if off*P.cellsOf e≤k∧k<off*P.cellsOf e+n*P.cellsOf e then((BD ys).take (n*P.cellsOf e))[k-off*P.cellsOf e]? else(BD xs)[k]?:=by
 have h1:(BD (xs.take off)).length=off*P.cellsOf e:=C9 L xs e off (by omega) fun v hv=>HT.size L (hx v hv)
 have h2:(BD (ys.take n)).length=n*P.cellsOf e:=C9 L ys e n hn fun v hv=>HT.size L (hy v hv)
 have h3:BD (xs.drop (off+n))=(BD xs).drop ((off+n)*P.cellsOf e):=Md L e xs _ hx
 have h4:BD (xs.take off)=(BD xs).take (off*P.cellsOf e):=Ji L e xs _ hx
 have h5:BD (ys.take n)=(BD ys).take (n*P.cellsOf e):=Ji L e ys _ hy
 refine⟨by simp;omega,fun z hz=> ?_,fun k=> ?_⟩
 ·rcases List.mem_append.1 hz with hz|hz
  ·rcases List.mem_append.1 hz with hz|hz
   ·exact hx z (List.mem_of_mem_take hz)
   ·exact hy z (List.mem_of_mem_take hz)
  ·exact hx z (List.mem_of_mem_drop hz)
 ·rw[Dj,Dj,List.append_assoc,List.getElem?_append,h1]
  by_cases hk1:k<off*P.cellsOf e
  ·rw[if_pos hk1,if_neg (by omega),h4,List.getElem?_take,if_pos hk1]
  ·rw[if_neg hk1,List.getElem?_append,h2]
   by_cases hk2:k-off*P.cellsOf e<n*P.cellsOf e
   ·rw[if_pos hk2,if_pos (by omega),h5]
   ·rw[if_neg hk2,if_neg (by omega),h3,List.getElem?_drop]
    congr 1
    rw[Nat.add_mul];omega
def G5 (v:V) (zs:List V):V:=
 match v with
 | .row e' _=> .row e' zs
 | .agg t' _=> .agg t' zs
 |v=>v
theorem BX.arrUpd (L:Lay P) {h:List V} (B:BX P g w h) {id:Nat} {p:List Nat} {v v0 v0':V} {xs zs:List V} {bt:BT} {o n:Nat} {e:TypeId} (h1:g.ty[id]?=some bt) (h2:bt.arr? P p=some (o,n,e))
 (hv0:h[id]?=some v0) (hat:v0.at p=some v) (hi:v.items=some xs) (hzl:zs.length=n) (hzt:∀z∈zs,HT P e z)
 (hu:v0.upd p (G5 v zs)=some v0'):
 bt.has P v0'∧o+n*P.cellsOf e≤v0.fl.length∧v0'.fl.length=v0.fl.length∧(∀k,v0'.fl[k]?=if o≤k∧k<o+n*P.cellsOf e then(BD zs)[k-o]? else v0.fl[k]?)∧∀k,k<n*P.cellsOf e→v0.fl[o+k]?=(BD xs)[k]?:=by
 have hb:=B.has id v0 bt hv0 h1
 have hsz:=hb.size L
 have var:∀t,bt.var? P p=some (o,t)→(∃u,K P t= .array u n e)→bt.has P v0'∧o+n*P.cellsOf e≤v0.fl.length∧v0'.fl.length=v0.fl.length∧(∀k,v0'.fl[k]?=if o≤k∧k<o+n*P.cellsOf e then(BD zs)[k-o]? else v0.fl[k]?)∧∀k,k<n*P.cellsOf e→v0.fl[o+k]?=(BD xs)[k]?:=by
  rintro t hv ⟨u,hk⟩
  obtain⟨ht,q1,q2⟩:=hb.at L hv hat
  have hct:=(L.array _ _ _ _ hk).1
  cases ht with
  |scal hk'=>rw[hk]at hk';cases hk'
  |undef hk'=>rw[hk]at hk';cases hk'
  |undefS hk'=>rw[hk]at hk';cases hk'
  |lst hk'=>rw[hk]at hk';cases hk'
  |win hk'=>rw[hk]at hk';cases hk'
  |struct hk'=>rw[hk]at hk';cases hk'
  |array hk' hl H=>
   rw[hk]at hk';cases hk'
   simp only[V.items,Option.some.injEq]at hi
   subst hi
   simp only[G5]at hu
   obtain⟨r1,r2,r3⟩:=hb.upd L hv (.array hk hzl hzt) hu
   rw[hct]at r2 r3 q2
   refine⟨r1,by rw[hsz];exact r2,by rw[r1.size L,hsz],by simpa [V.fl]using r3,by simpa [V.fl]using q2⟩
 have bind:∀bt p,(BT.var? P bt p).bind (fun s=>match K P s.2 with| .array _ n e=>some (s.1,n,e)|_=>none)=some (o,n,e)→∃t,bt.var? P p=some (o,t)∧∃u,K P t= .array u n e:=by
  intro bt p h
  obtain⟨⟨o1,t1⟩,h3,h4⟩:=Option.bind_eq_some_iff.1 h
  simp only at h4
  split at h4
  ·rename_i u m e' hk
   simp only[Option.some.injEq,Prod.mk.injEq]at h4
   obtain⟨rfl,rfl,rfl⟩:=h4
   exact⟨t1,h3,u,hk⟩
  ·cases h4
 cases bt with
 |var t0=>
  obtain⟨t,h3,h4⟩:=bind _ _ h2
  exact var t h3 h4
 |row e0 n0=>
  cases p with
  |cons i p=>
   obtain⟨t,h3,h4⟩:=bind _ _ h2
   exact var t h3 h4
  |nil=>
   simp only[BT.arr?,Option.some.injEq,Prod.mk.injEq]at h2
   obtain⟨rfl,rfl,rfl⟩:=h2
   simp only[V.at,Option.some.injEq]at hat
   subst hat
   obtain⟨ys,rfl,hl,hy⟩:=hb
   simp only[V.items,Option.some.injEq]at hi
   subst hi
   simp only[V.upd,G5,Option.some.injEq]at hu
   subst hu
   have hlz:=Aw L zs e0 fun x hx=>HT.size L (hzt x hx)
   have hly:=Aw L ys e0 fun x hx=>HT.size L (hy x hx)
   refine⟨⟨zs,rfl,hzl,hzt⟩,by simp only[V.fl];rw[hly,hl];omega,by simp only[V.fl];rw[hly,hl,hlz,hzl],fun k=> ?_,fun k hk=>by simp[V.fl]⟩
   simp only[V.fl]
   split
   ·rfl
   ·rename_i hk
    rw[List.getElem?_eq_none (by rw[hlz,hzl];omega),List.getElem?_eq_none (by rw[hly,hl];omega)]
theorem SR.putO {st:St} {a:Act} (S:SR P A g w st a.tmps) {dst:Option Tmp} (hd:∀d,dst=some d→d<a.tmps.size) {v:V} {c:Value} (hv:VR P g w v c)
 (ho:∀d,dst=some d→∀e xs,v= .lst e .own xs→Own P g w e xs.length c (.inl d)) (hn:(∃e xs,v= .lst e .own xs)∨v.noOwn=true):SR P A g w (st.put dst v) (a.put dst c).tmps:=by
 cases dst with
 |none=>exact S
 |some d=>exact S.put (hd d rfl) hv (ho d rfl) hn
theorem AMm (L:Lay P) {st:St} {a:Act} (S:SR P A g w st a.tmps) {dst:Option Tmp} (hd:∀d,dst=some d→d<a.tmps.size) {dT sT ty:TypeId} {x y:Operand} {r:V×List V} {t1 t2:TypeId} {eT:TypeId} (hkT:K P dT= .slice eT)
 (h:cpy P dT st.h (st.ev P A t1 x) (st.ev P A t2 y)=some r):
 ∃c w' g',(Builtin.copy_ #[dT,sT] ty #[a.eval x,a.eval y]).run P w= .ok c w'∧Ext g w g' w'∧SR P A g' w' ({st with h:=r.2}.put dst r.1) (a.put dst c).tmps∧r.1.noOwn=true:=by
 unfold cpy at h
 split at h
 case h_2=>cases h
 rename_i id p off len e hxv
 split at h
 case isTrue=>cases h
 rename_i hbe
 obtain rfl:e=eT:=by
  have:GL P dT=eT:=by simp[GL,hkT]
  rw[this]at hbe
  exact Nat.eq_of_beq_eq_true (by simpa using hbe)
 obtain⟨ys,hys,h⟩:=Option.bind_eq_some_iff.1 h
 obtain⟨xs,hxs,h⟩:=Option.bind_eq_some_iff.1 h
 split at h
 case isFalse=>cases h
 rename_i hc
 simp only[Bool.and_eq_true]at hc
 obtain⟨c1,c2⟩:=hc
 obtain⟨h',hw,rfl⟩:=Option.map_eq_some_iff.1 h
 obtain⟨v,hr,hi⟩:=Option.bind_eq_some_iff.1 hxs
 have hVx:=S.ev t1 x
 rw[hxv]at hVx
 obtain⟨hsrc,_⟩:=Ew L S.box hys (S.ev t2 y)
 have hty:=ZY L S.box hys (S.ev t2 y) c2
 obtain⟨q1,news,q2,q3,q4⟩:=hsrc.readN L hty
 obtain⟨n1,n2,n3,n4,n5⟩:=OG hty q2
 have hw':wr st.h id p (G5 v (xs.take off++(D8 P e ys).take (min ys.length len)++xs.drop (off+min ys.length len)))=some h':=by
  rw[hr]at hw
  cases v with
  |row=>exact hw
  |agg=>exact hw
  |_=>cases hw
 have hmn:min ys.length len=Nat.min ys.length len:=rfl
 generalize hca:a.eval x=ca at hVx
 cases hVx.leaf' rfl (by simp)with
 |win _ _ _ _ _ bt o n b cap h1 h2 h3 h4 h5 h6=>
  obtain⟨r1,r2,r3,_⟩:=S.box.arr L h1 h2 hr hi
  have hr0:=hr
  unfold rd at hr
  obtain⟨v0,hv0,hat⟩:=Option.bind_eq_some_iff.1 hr
  have hwr:=hw'
  unfold AM.wr at hwr
  obtain⟨v00,hv00,hwr⟩:=Option.bind_eq_some_iff.1 hwr
  obtain⟨v0',hup,rfl⟩:=Option.map_eq_some_iff.1 hwr
  rw[hv0]at hv00;cases hv00
  have hmle:min ys.length len≤ys.length:=Nat.min_le_left _ _
  have hmle2:min ys.length len≤len:=Nat.min_le_right _ _
  obtain⟨m1,m2,m3⟩:=AMl L r2 n2 (off:=off) (n:=min ys.length len) (by omega) (by rw[n3];omega)
  obtain⟨u1,u2,u3,u4,u5⟩:=S.box.arrUpd L h1 h2 hv0 hat hi (zs:=xs.take off++(D8 P e ys).take (min ys.length len)++xs.drop (off+min ys.length len)) (by rw[m1,r1]) m2 hup
  have hcl:(news.take (min ys.length len*P.cellsOf e)).length=min ys.length len*P.cellsOf e:=by
   rw[List.length_take,q3];exact Nat.min_eq_left (Nat.mul_le_mul_right _ hmle)
  have hin:off*P.cellsOf e+min ys.length len*P.cellsOf e≤n*P.cellsOf e:=by rw[←Nat.add_mul];exact Nat.mul_le_mul_right _ (by omega)
  obtain⟨E,S2,f1,f2⟩:=S.write (o:=o+off*P.cellsOf e) (ls:=(BD (D8 P e ys)).take (min ys.length len*P.cellsOf e)) (cs:=news.take (min ys.length len*P.cellsOf e)) hv0 h4
   (fun bt' hb=>by rw[h1]at hb;cases hb;exact u1)
   (by
    rw[CB,List.all_eq_true]
    intro z hz
    obtain⟨k,hk,rfl⟩:=List.mem_iff_getElem.1 hz
    have hg:v0'.fl[k]?=some v0'.fl[k]:=List.getElem?_eq_getElem hk
    have old:∀z,v0.fl[k]?=some z→z.under (id+1)=true:=by
     intro z hz
     have:=S.box.low id v0 hv0
     rw[CB,List.all_eq_true]at this;exact this _ (List.mem_of_getElem? hz)
    rw[u4]at hg
    split at hg
    ·rename_i hk2
     rw[m3]at hg
     split at hg
     ·have hm:=List.mem_of_mem_take (List.mem_of_getElem? hg)
      have hcu:=DK (id+1) _ (n4 c1)
      rw[Ez,List.all_eq_true]at hcu
      exact hcu _ hm
     ·refine old _ ?_
      have:=u5 (k-o) (by omega)
      rw[show o+(k-o)=k by omega]at this
      rw[this];exact hg
    ·exact old _ hg)
   (by rw[hcl];omega) u3
   (fun k=>by
    rw[u4,hcl]
    by_cases hk:o≤k∧k<o+n*P.cellsOf e
    ·rw[if_pos hk,m3]
     by_cases hk2:off*P.cellsOf e≤k-o∧k-o<off*P.cellsOf e+min ys.length len*P.cellsOf e
     ·rw[if_pos hk2,if_pos (by omega)];congr 1;omega
     ·rw[if_neg hk2,if_neg (by omega)]
      have:=u5 (k-o) (by omega)
      rw[show o+(k-o)=k by omega]at this
      exact this.symm
    ·rw[if_neg hk,if_neg (by omega)])
   (n1.take _)
   (fun j c e' xs' hj _=>by
    have:=List.mem_of_mem_take (List.mem_of_getElem? hj)
    obtain⟨k,hk,hkk⟩:=List.mem_iff_getElem.1 this
    exact(Lp n5 k e' xs' (by rw[List.getElem?_eq_getElem hk,hkk])).elim)
  have hone:∀v∈news.take (min ys.length len*P.cellsOf e),v.oneCell'=true:=fun v hv=>q2.oneCell v (List.mem_of_mem_take hv)
  have hst:=run_storeCells_cells (P:=P) b (o+off*P.cellsOf e) _ 0 w (by simpa using f1) (by simpa using f2) hone
  simp only[Nat.add_zero]at hst
  refine⟨goInt (Nat.min ys.length len),w.setCells b (o+off*P.cellsOf e) (news.take (min ys.length len*P.cellsOf e)),g,NG (ty:=ty) L hkT q1 (q4 _ hmle) (fun x hx=>by cases hx;exact hst) (fun hh=>by cases hh),E,S2.putO hd (v:= .int .i64 ((min ys.length len:Nat):Int)) (.of_int _ _) (fun _ _ _ _ h=>by cases h) (.inr rfl),rfl⟩
 |win0 _ _ _ _ bt o n a0 cap h1 h2 h3 h4=>
  obtain⟨r1,r2,r3,_⟩:=S.box.arr L h1 h2 hr hi
  have h0:min ys.length 0=0:=Nat.min_zero _
  have hself:G5 v (xs.take off++(D8 P e ys).take (min ys.length 0)++xs.drop (off+min ys.length 0))=v:=by
   rw[h0]
   simp only[List.take_zero,List.append_nil,Nat.add_zero,List.take_append_drop]
   cases v with
   |row=>simp only[V.items,Option.some.injEq]at hi;subst hi;rfl
   |agg=>simp only[V.items,Option.some.injEq]at hi;subst hi;rfl
   |_=>rfl
  rw[hself,ATu hr]at hw'
  obtain rfl:=Option.some.inj hw'
  have hz:=q4 0 (Nat.zero_le _)
  refine⟨goInt (Nat.min ys.length 0),w,g,NG (ty:=ty) L hkT q1 (cs:=[]) (by rw[show Nat.min ys.length 0=0 from h0,hz];simp) (fun x _=>rfl) (fun _=>rfl),Ext.refl g w,S.putO hd (v:= .int .i64 ((min ys.length 0:Nat):Int)) (.of_int _ _) (fun _ _ _ _ h=>by cases h) (.inr rfl),rfl⟩
end
end AM
end
section
namespace AM
open Go
section
variable {P:Program} {A:Ann} {g g':G} {w w':World}
def AEi (P:Program) (o:Oper):Bool:=
 match o.op with
 | .nilCheck _=>true
 | .binOp _ _ _ _ _=>true
 | .unOp _ _ _=>true
 | .convert _ d _=>match P.underlying d with
   |some (.slice _)=>false
   |_=>true
 | .makeFunc (.func _) first caps=>first.isEmpty
 | .slice _ _ _ _ _=>true
 | .fieldAddr _ _ _=>true
 | .field _ _ _=>true
 | .indexAddr _ _ _=>true
 | .index _ _ _=>true
 | .extract _ _=>true
 | .load _ _=>true
 | .build _ _=>true
 | .call {callee:= .builtin .len,args,argTypes}=>Nat.beq args.size 1&&Nat.beq argTypes.size 1
 | .call {callee:= .builtin .min,args,argTypes}=>Nat.beq args.size 2
 | .call {callee:= .builtin .max,args,argTypes}=>Nat.beq args.size 2
 |_=>false
theorem PR.of {st:St} {a:Act} (S:SR P A g w st a.tmps) (ty:Nat→TypeId):∀ps:List (Nat×Operand),PR P g w (ps.map fun p=>(p.1,st.ev P A (ty p.1) p.2)) (ps.map fun p=>(p.1,a.eval p.2))
 |[]=> .nil
 |p::ps=> .cons (S.ev _ _) (PR.of S ty ps)
theorem OR.of {st:St} {a:Act} (S:SR P A g w st a.tmps) (t:TypeId) (x:Option Operand):OR P g w (x.map (st.ev P A t)) (x.map a.eval):=by
 cases x with
 |none=>exact .none
 |some x=>exact .some (S.ev t x)
theorem AMn {op:BinOp} {t:TypeId} {x y v:V} {cx cy:Value} {xo yo:Operand} (h:AL op x y=some v) (hx:VR P g w x cx) (hy:VR P g w y cy):
 ∃c,(do eqGuard op t xo yo cx cy;binOp op t cx cy:Sem Value).run P w= .ok c w∧VR P g w v c∧v.noOwn=true:=by
 cases x with
 |int k a=>
  cases y with
  |int k' b=>obtain rfl:=hx.int';obtain rfl:=hy.int';exact AMd h
  |_=>cases op<;>simp[AL]at h
 |str a=>
  cases y with
  |str b=>obtain⟨z1,rfl,e1⟩:=hx.str';obtain⟨z2,rfl,e2⟩:=hy.str';exact AMe e1 e2 h
  |_=>cases op<;>simp[AL]at h
 |_=>cases op<;>simp[AL]at h
theorem TY {h:List V} {x:V} {ys:List V} {c:Value} (hc:Ai h x=some ys) (hs:∀z,x≠ .str z) (hx:VR P g w x c):∃a n k,c= .slice a n k:=by
 unfold Ai at hc
 split at hc
 ·obtain⟨a,cap,h,_⟩:=slice_form (hx.leaf' rfl (by simp));exact⟨_,_,_,h⟩
 ·cases hx.leaf' rfl (by simp)with
  |win=>exact⟨_,_,_,rfl⟩
  |win0=>exact⟨_,_,_,rfl⟩
 ·exact(hs _ rfl).elim
 ·cases hc
theorem AJj (L:Lay P) {st:St} {a:Act} (S:SR P A g w st a.tmps) {s d:TypeId} {x:Operand} {v:V} (hd:∀e,P.underlying d≠some (.slice e)) (hs:∃D,P.underlying s=some D) (h:conv P st.h s d (st.ev P A s x)=some v):
 ∃c,(convert s d (a.eval x)).run P w= .ok c w∧VR P g w v c∧v.noOwn=true:=by
 obtain⟨D,hD⟩:=hs
 have hVx:=S.ev s x
 unfold conv at h
 split at h
 ·rename_i k k' n hdu hx
  rw[hx]at hVx
  obtain rfl:=Option.some.inj h
  have hc:=hVx.int'
  refine⟨_,?_,.of_int _ _,rfl⟩
  simp only[convert,Sem.run_bind,Ad hD,Ad hdu,Result.andThen_ok,hc]
  cases D<;>rfl
 ·rename_i b hdu hx
  rw[hx]at hVx
  obtain rfl:=Option.some.inj h
  obtain⟨z,hc,hz⟩:=hVx.str'
  refine⟨_,?_,.of_str hz,rfl⟩
  simp only[convert,Sem.run_bind,Ad hD,Ad hdu,Result.andThen_ok,hc]
  cases D<;>rfl
 ·rename_i e b hdu hx
  exact(hd _ hdu).elim
 ·rename_i hdu _
  split at h
  ·rename_i e hsu
   rw[hD]at hsu
   obtain rfl:=Option.some.inj hsu
   split at h
   ·rename_i heu
    obtain⟨bs,hb,rfl⟩:=Option.map_eq_some_iff.1 h
    obtain⟨ys,hys,hbt⟩:=Option.bind_eq_some_iff.1 hb
    obtain⟨hsrc,_⟩:=Ew L S.box hys hVx
    obtain⟨ns,rfl,rfl⟩:=ND hbt
    have hns:∀z,st.ev P A s x≠ .str z:=by
     intro z hz
     rw[hz]at hys
     rename_i hno _ _ _
     exact hno z hz
    obtain⟨b,n,k,hsl⟩:=TY hys hns hVx
    rw[hsl]at hsrc⊢
    obtain⟨z,hz1,hz2⟩:=run_bytesToString hsrc (by simp)
    refine⟨_,?_,.of_str hz2,rfl⟩
    simp only[convert,Sem.run_bind,Ad hD,Ad hdu,Result.andThen_ok,Ad heu,hz1]
   ·cases h
  ·cases h
 ·cases h
theorem Za {α:Type} {xs:Array α} (h:xs.size=1):∃x,xs= #[x]:=by
 obtain⟨l⟩:=xs
 cases l with
 |nil=>simp at h
 |cons x l=>cases l with
  |nil=>exact⟨x,rfl⟩
  |cons=>simp at h
theorem size_two {α:Type} {xs:Array α} (h:xs.size=2):∃x y,xs= #[x,y]:=by
 obtain⟨l⟩:=xs
 cases l with
 |nil=>simp at h
 |cons x l=>cases l with
  |nil=>simp at h
  |cons y l=>cases l with
   |nil=>exact⟨x,y,rfl⟩
   |cons=>simp at h
theorem AJk {op:BinOp} {t:TypeId} {a:Act} {x:V} {v:V} {xo y:Operand} (hn:isNil P t y=true) (h:AOI op x=some v) (hx:VR P g w x (a.eval xo)):
 ∃c,(do eqGuard op t xo y (a.eval xo) (a.eval y);binOp op t (a.eval xo) (a.eval y):Sem Value).run P w= .ok c w∧VR P g w v c∧v.noOwn=true:=by
 unfold isNil at hn
 split at hn
 ·rename_i ms hu
  have hc:a.eval (.const .nilIface)= .nilIface:=rfl
  have hl:∀{c},VR P g w .nili c→c= .nilIface:=by
   intro c hc
   cases hc.leaf' rfl (by simp)
   rfl
  have he:(Op.equal t .nilIface .nilIface).run P w= .ok true w:=by
   unfold Op.equal
   rw[show Op.maxDepth=(Op.maxDepth-1)+1 from rfl]
   unfold Op.equalIn
   simp only[Sem.run_bind,Ad hu,Result.andThen_ok]
   rfl
  have hg:∀op,(eqGuard op t xo (.const .nilIface) .nilIface .nilIface).run P w= .ok () w:=by
   intro op
   unfold eqGuard
   cases op<;>cases xo<;>rfl
  have hl2:∀{c},VR P g w .ifv c→∃t q,c= .iface t q:=by
   intro c hc
   cases hc.leaf' rfl (by simp)
   exact⟨_,_,rfl⟩
  have he2:∀s q,(Op.equal t (.iface s q) .nilIface).run P w= .ok false w:=by
   intro s q
   unfold Op.equal
   rw[show Op.maxDepth=(Op.maxDepth-1)+1 from rfl]
   unfold Op.equalIn
   simp only[Sem.run_bind,Ad hu,Result.andThen_ok]
   rfl
  have hg2:∀op s q,(eqGuard op t xo (.const .nilIface) (.iface s q) .nilIface).run P w= .ok () w:=by
   intro op s q
   unfold eqGuard
   cases op<;>cases xo<;>rfl
  unfold AOI at h
  split at h
  ·cases h
   rw[hl hx,hc,Sem.run_bind,hg,Result.andThen_ok]
   refine⟨.bool true,?_,.of_bool _,rfl⟩
   simp[binOp,he]
  ·cases h
   rw[hl hx,hc,Sem.run_bind,hg,Result.andThen_ok]
   refine⟨.bool false,?_,.of_bool _,rfl⟩
   simp[binOp,he]
  ·cases h
   obtain⟨s,q,e⟩:=hl2 hx
   rw[e,hc,Sem.run_bind,hg2,Result.andThen_ok]
   refine⟨.bool false,?_,.of_bool _,rfl⟩
   simp[binOp,he2]
  ·cases h
   obtain⟨s,q,e⟩:=hl2 hx
   rw[e,hc,Sem.run_bind,hg2,Result.andThen_ok]
   refine⟨.bool true,?_,.of_bool _,rfl⟩
   simp[binOp,he2]
  ·cases h
 ·cases hn
theorem AJl {op:BinOp} {t:TypeId} {a:Act} {x:V} {v:V} {xo y:Operand} (hn:AAA P t y=true) (h:VN op x=some v) (hx:VR P g w x (a.eval xo)):
 ∃c,(do eqGuard op t xo y (a.eval xo) (a.eval y);binOp op t (a.eval xo) (a.eval y):Sem Value).run P w= .ok c w∧VR P g w v c∧v.noOwn=true:=by
 unfold AAA at hn
 split at hn
 ·rename_i ms hu
  have hc:a.eval (.const (.pointer none))= .pointer none:=rfl
  have he:∀q:Option Addr,(Op.equal t (.pointer q) (.pointer none)).run P w= .ok q.isNone w:=by
   intro q
   unfold Op.equal
   rw[show Op.maxDepth=(Op.maxDepth-1)+1 from rfl]
   unfold Op.equalIn
   simp only[Sem.run_bind,Ad hu,Result.andThen_ok]
   cases q<;>rfl
  have hg:∀op q,(eqGuard op t xo (.const (.pointer none)) (.pointer q) (.pointer none)).run P w= .ok () w:=by
   intro op q
   unfold eqGuard
   cases op<;>cases xo<;>rfl
  have hq:∀{z:V},(z= .nilp∨(∃i p t,z= .ref i p t)∨∃t y,z= .rop t y)→VR P g w z (a.eval xo)→∃q,a.eval xo= .pointer q∧(z= .nilp→q=none)∧(z≠ .nilp→q≠none):=by
   rintro z (rfl|⟨i,p,t,rfl⟩|⟨t,y,rfl⟩) hz
   ·generalize a.eval xo=c at hz
    cases hz.leaf' rfl (by simp)
    exact⟨none,rfl,fun _=>rfl,fun h=>absurd rfl h⟩
   ·generalize a.eval xo=c at hz
    cases hz.leaf' rfl (by simp)
    exact⟨_,rfl,(fun h=>by cases h),(fun _ h=>by cases h)⟩
   ·generalize a.eval xo=c at hz
    cases hz.leaf' rfl (by simp)
    exact⟨_,rfl,(fun h=>by cases h),(fun _ h=>by cases h)⟩
  unfold VN at h
  split at h
  all_goals try cases h
  ·obtain⟨q,e,h1,_⟩:=hq (Or.inl rfl) hx
   obtain rfl:=h1 rfl
   rw[e,hc,Sem.run_bind,hg,Result.andThen_ok]
   exact⟨.bool true,by simp[binOp,he],.of_bool _,rfl⟩
  ·obtain⟨q,e,h1,_⟩:=hq (Or.inl rfl) hx
   obtain rfl:=h1 rfl
   rw[e,hc,Sem.run_bind,hg,Result.andThen_ok]
   exact⟨.bool false,by simp[binOp,he],.of_bool _,rfl⟩
  ·obtain⟨q,e,_,h2⟩:=hq (Or.inr (Or.inl ⟨_,_,_,rfl⟩)) hx
   have h2:=h2 (by simp)
   cases q with
   |none=>exact absurd rfl h2
   |some q=>
    rw[e,hc,Sem.run_bind,hg,Result.andThen_ok]
    exact⟨.bool false,by simp[binOp,he],.of_bool _,rfl⟩
  ·obtain⟨q,e,_,h2⟩:=hq (Or.inr (Or.inl ⟨_,_,_,rfl⟩)) hx
   have h2:=h2 (by simp)
   cases q with
   |none=>exact absurd rfl h2
   |some q=>
    rw[e,hc,Sem.run_bind,hg,Result.andThen_ok]
    exact⟨.bool true,by simp[binOp,he],.of_bool _,rfl⟩
  ·obtain⟨q,e,_,h2⟩:=hq (Or.inr (Or.inr ⟨_,_,rfl⟩)) hx
   have h2:=h2 (by simp)
   cases q with
   |none=>exact absurd rfl h2
   |some q=>
    rw[e,hc,Sem.run_bind,hg,Result.andThen_ok]
    exact⟨.bool false,by simp[binOp,he],.of_bool _,rfl⟩
  ·obtain⟨q,e,_,h2⟩:=hq (Or.inr (Or.inr ⟨_,_,rfl⟩)) hx
   have h2:=h2 (by simp)
   cases q with
   |none=>exact absurd rfl h2
   |some q=>
    rw[e,hc,Sem.run_bind,hg,Result.andThen_ok]
    exact⟨.bool true,by simp[binOp,he],.of_bool _,rfl⟩
 ·cases hn
theorem AJm (L:Lay P) {st:St} {a:Act} (S:SR P A g w st a.tmps) {o:Oper} {v:V} (hk:AEi P o=true) (hsrc:∀s d x,o.op= .convert s d x→∃D,P.underlying s=some D) (h:pureOp P A st o=some v):
 ∃c,(execOp a.eval o).run P w= .ok (.value c) w∧VR P g w v c∧v.noOwn=true:=by
 have lift:∀{s:Sem Value},(∃c,s.run P w= .ok c w∧VR P g w v c∧v.noOwn=true)→∃c,(do pure (Next.value (←s)):Sem Next).run P w= .ok (.value c) w∧VR P g w v c∧v.noOwn=true:=by
  rintro s ⟨c,h1,h2,h3⟩
  exact⟨c,by simp[h1],h2,h3⟩
 obtain⟨dst,op,type,pos,after,guard⟩:=o
 unfold pureOp at h
 unfold AEi at hk
 simp only at h hk
 split at h
 ·rename_i x
  exact AA7 (a:=a) rfl rfl h (S.ev 0 x)
 ·rename_i bop t x y u
  simp only[execOp]
  refine lift ?_
  split at h
  ·exact AJa L h (S.ev t x) (S.ev u y)
  split at h
  ·rename_i hn
   exact AJk hn h (S.ev t x)
  split at h
  ·rename_i hn
   exact AJl hn h (S.ev t x)
  ·exact AMn h (S.ev t x) (S.ev u y)
 ·rename_i uop t x
  simp only[execOp]
  exact lift (AQ0 h (S.ev t x))
 ·rename_i s d x
  simp only[execOp]
  refine lift (AJj L S (fun e he=>by simp[he]at hk) (hsrc s d x rfl) h)
 ·rename_i f first caps
  rw[if_pos hk]at h
  ·split at h
   ·rename_i hcap
    obtain rfl:=Option.some.inj h
    simp only[Array.isEmpty_iff]at hk
    subst hk
    have hclo:VR P g w (.clo f (caps.toList.map (st.ev P A 0))) (.func (.func f) #[] (caps.toList.map a.eval).toArray):=by
     refine .lf rfl (.clo f _ _ (by simp) fun j x c h1 h2=> ?_)
     have hcx:=(List.all_eq_true.1 hcap) x (List.mem_of_getElem? h1)
     rw[List.getElem?_map,Option.map_eq_some_iff]at h1 h2
     obtain⟨y,hy,rfl⟩:=h1
     obtain⟨z,hz,rfl⟩:=h2
     rw[hy]at hz
     obtain rfl:=Option.some.inj hz
     have hV:=S.ev 0 y
     refine hV.leaf' ?_ ?_
     ·generalize st.ev P A 0 y=v at hcx
      cases v<;>first|rfl|(simp[V.capOk]at hcx)
     ·intro hu
      rw[hu]at hcx;simp[V.capOk]at hcx
    refine⟨_,?_,hclo,rfl⟩
    simp only[execOp,Instr.makeFunc,Sem.run_bind,Sem.run_pure,Result.andThen_ok,Array.map_empty]
    congr 3
    apply Array.ext';simp
   ·cases h
 ·cases hk
 ·rename_i t x lo hi mx
  simp only[execOp]
  exact lift (AMg L S.wg h (S.ev t x) (OR.of S 0 lo) (OR.of S 0 hi) (OR.of S 0 mx))
 ·rename_i s x f
  simp only[execOp]
  exact lift (Lm L h (S.ev 0 x))
 ·rename_i t x f
  simp only[execOp]
  exact lift (AA5 L h (S.ev t x))
 ·rename_i t x i
  simp only[execOp]
  exact lift (AA3 L S.wg h (S.ev t x) (S.ev 0 i))
 ·rename_i t x i
  simp only[execOp]
  exact lift (AA6 L h (S.ev t x) (S.ev 0 i))
 ·rename_i x i
  simp only[execOp]
  refine lift ?_
  split at h
  ·exact AJV h (S.ev 0 x)
  ·exact ADZ h (S.ev 0 x)
 ·rename_i t x
  simp only[execOp]
  exact lift (ZT L S.wg S.box h (S.ev 0 x))
 ·rename_i t ps
  simp only[execOp]
  refine lift ?_
  have:=AMi L h (PR.of S (fun i=>match K P t with| .struct _ fs=>fs.getD i 0| .array _ _ e=>e|_=>0) ps.toList)
  obtain⟨c,h1,h2,h3⟩:=this
  refine⟨c,?_,h2,h3⟩
  rw[←h1]
  congr 2
  apply Array.ext'
  simp
 ·cases hk
 ·rename_i args argTypes
  simp only[Bool.and_eq_true]at hk
  obtain⟨x,rfl⟩:=Za (Nat.eq_of_beq_eq_true hk.1)
  obtain⟨t,rfl⟩:=Za (Nat.eq_of_beq_eq_true hk.2)
  have h':lenV P t (st.ev P A t x)=some v:=h
  obtain⟨c,h1,h2,h3⟩:=AJZ (ty:=type) h' (S.ev t x)
  refine⟨c,?_,h2,h3⟩
  simp only[execOp,resolve,invoke,builtin,Sem.run_bind,Sem.run_pure,Result.andThen_ok,List.map_toArray,List.map_cons,List.map_nil,h1]
 ·rename_i args argTypes
  obtain⟨x,y,rfl⟩:=size_two (Nat.eq_of_beq_eq_true hk)
  have h':O4 (st.ev P A (argTypes.getD 0 0) x) (st.ev P A (argTypes.getD 1 0) y)=some v:=h
  obtain⟨c,h1,h2,h3⟩:=AJW (ts:=argTypes) (t:=type) h' (S.ev _ x) (S.ev _ y)
  refine⟨c,?_,h2,h3⟩
  simp only[execOp,resolve,invoke,builtin,Sem.run_bind,Sem.run_pure,Result.andThen_ok,List.map_toArray,List.map_cons,List.map_nil,h1]
 ·rename_i args argTypes
  obtain⟨x,y,rfl⟩:=size_two (Nat.eq_of_beq_eq_true hk)
  have h':Xh (st.ev P A (argTypes.getD 0 0) x) (st.ev P A (argTypes.getD 1 0) y)=some v:=h
  obtain⟨c,h1,h2,h3⟩:=AJX (ts:=argTypes) (t:=type) h' (S.ev _ x) (S.ev _ y)
  refine⟨c,?_,h2,h3⟩
  simp only[execOp,resolve,invoke,builtin,Sem.run_bind,Sem.run_pure,Result.andThen_ok,List.map_toArray,List.map_cons,List.map_nil,h1]
 ·cases hk
 ·cases h
end
end AM
end
section
namespace AM
open Go
def AEj (f:TypeId→V→Bool):List TypeId→List V→Bool
 |[],[]=>true
 |t::ts,v::vs=>f t v&&AEj f ts vs
 |_,_=>false
def htB (P:Program):Nat→TypeId→V→Bool
 |0,_,_=>false
 |d+1,t,v=>match K P t with
  | .scal=>match v with
    | .undef=>true
    |v=>v.scal&&Bd P t v
  | .slice e=>match v with
    | .lst e' .nil []=>Nat.beq e e'
    |_=>false
  | .struct u fs=>match v with
    | .agg u' vs=>Nat.beq u u'&&AEj (htB P d) fs vs
    |_=>false
  | .array u n e=>match v with
    | .agg u' vs=>Nat.beq u u'&&Nat.beq vs.length n&&vs.all (htB P d e)
    |_=>false
  | .bad=>false
def Lr:TK→Bool
 | .bad=>false
 |_=>true
def AMo:Nat→List Nat→List Nat
 |_,[]=>[]
 |a,x::xs=>a::AMo (a+x) xs
def ADd:List Nat→List Field→Bool
 |[],[]=>true
 |o::os,f::fs=>Nat.beq f.offset o&&ADd os fs
 |_,_=>false
def AJn (P:Program) (t:TypeId):Bool:=
 match P.info? t with
 |some i=>match i.zero with
  |some z=>Ll (zero P t).fl z.cells.toList&&htB P 13 t (zero P t)
  |none=>false
 |none=>false
def XU (P:Program) (t:TypeId):Bool:=
 (match K P t with
 | .scal=>Nat.beq (P.cellsOf t) 1
 | .slice e=>Nat.beq (P.cellsOf t) 1&&Lr (K P e)&&Nat.blt 0 (P.cellsOf e)&&(zero P e).clean&&(match P.info? e with|some i=>Nat.ble i.bytes 65536|none=>false)&&Nat.ble (P.cellsOf e) 256
 | .struct _ fs=>Nat.beq (P.cellsOf t) ((fs.map P.cellsOf).sum)&&fs.all fun t=>Lr (K P t)
 | .array _ n e=>Nat.beq (P.cellsOf t) (n*P.cellsOf e)&&Lr (K P e)
 | .bad=>true)&&
 (match P.underlying t with
 |some (.struct F)=>ADd (AMo 0 (F.toList.map fun g=>P.cellsOf g.type)) F.toList
 |_=>true)
theorem AQ3 {P:Program}:∀(d:Nat) {t:TypeId} {v:V},htB P d t v=true→HT P t v:=by
 intro d
 induction d with
 |zero=>intro t v h;simp[htB]at h
 |succ d ih=>
  intro t v h
  simp only[htB]at h
  split at h
  ·rename_i hk
   split at h
   ·exact .undef hk
   ·simp only[Bool.and_eq_true]at h
    exact .scal hk h.1 h.2
  ·rename_i e hk
   split at h
   ·obtain rfl:=Nat.eq_of_beq_eq_true h;exact .lst hk
   ·cases h
  ·rename_i u fs hk
   split at h
   ·rename_i u' vs
    simp only[Bool.and_eq_true]at h
    obtain⟨h1,h2⟩:=h
    obtain rfl:=Nat.eq_of_beq_eq_true h1
    have key:∀(fs:List TypeId) (vs:List V),AEj (htB P d) fs vs=true→vs.length=fs.length∧∀(i:Nat) (ft:TypeId) (v:V),fs[i]?=some ft→vs[i]?=some v→htB P d ft v=true:=by
     intro fs
     induction fs with
     |nil=>intro vs h;cases vs with|nil=>exact⟨rfl,by simp⟩|cons=>simp[AEj]at h
     |cons f fs ihf=>
      intro vs h
      cases vs with
      |nil=>simp[AEj]at h
      |cons v vs=>
       simp only[AEj,Bool.and_eq_true]at h
       obtain⟨a,b⟩:=ihf vs h.2
       refine⟨by simp[a],fun i ft x h1 h2=> ?_⟩
       cases i with
       |zero=>simp at h1 h2;subst h1 h2;exact h.1
       |succ i=>exact b i ft x (by simpa using h1) (by simpa using h2)
    obtain⟨a,b⟩:=key fs vs h2
    exact .struct hk a fun i ft v h1 h2=>ih (b i ft v h1 h2)
   ·cases h
  ·rename_i u n e hk
   split at h
   ·rename_i u' vs
    simp only[Bool.and_eq_true,List.all_eq_true]at h
    obtain⟨⟨h1,h2⟩,h3⟩:=h
    obtain rfl:=Nat.eq_of_beq_eq_true h1
    exact .array hk (Nat.eq_of_beq_eq_true h2) fun v hv=>ih (h3 v hv)
   ·cases h
  ·cases h
theorem KN {k:TK} (h:Lr k=true):k≠ .bad:=by rintro rfl;cases h
theorem SL:∀(F:List Field) (a:Nat) (g:Field→Nat),ADd (AMo a (F.map g)) F=true→∀i f,F[i]?=some f→f.offset=a+((F.take i).map g).sum
 |[],_,_,_,i,f,h=>by simp at h
 |x::F,a,g,h,i,f,hf=>by
  simp only[List.map_cons,AMo,ADd,Bool.and_eq_true]at h
  cases i with
  |zero=>simp at hf;subst hf;simpa using Nat.eq_of_beq_eq_true h.1
  |succ i=>
   have:=SL F (a+g x) g h.2 i f (by simpa using hf)
   rw[this];simp[Nat.add_assoc]
theorem ATv {P:Program} {t:TypeId} (h:K P t≠ .bad):t<P.types.size:=by
 rcases Nat.lt_or_ge t P.types.size with h'|h'
 ·exact h'
 ·exact(h (by unfold K;rw[if_pos (by rw[Bool.eq_false_iff];intro hh;have:=Nat.le_of_ble_eq_true hh;omega)])).elim
def lays (P:Program) (t:TypeId):Bool:= !Lr (K P t)||(XU P t&&AJn P t)
def XV (P:Program):Bool:=(List.range P.types.size).all (lays P)
theorem AQ4 {P:Program} (h:XV P=true):Lay P:=by
 have H:∀t,K P t≠ .bad→XU P t=true∧AJn P t=true:=by
  intro t ht
  simp only[XV,List.all_eq_true,List.mem_range]at h
  have:=h t (ATv ht)
  simp only[lays,Bool.or_eq_true,Bool.not_eq_true',Bool.and_eq_true]at this
  rcases this with h'|h'
  ·exact(ht (by cases hk:K P t<;>simp[hk,Lr]at h'⊢)).elim
  ·exact h'
 refine⟨fun t hk=> ?_,fun t e hk=> ?_,fun t e hk=> ?_,fun t u fs hk=> ?_,fun t u n e hk=> ?_,fun t u fs hk=> ?_,fun t hk=> ?_,fun t F hu ht=> ?_⟩
 ·have:=(H t (by rw[hk];simp)).1
  simp only[XU,hk,Bool.and_eq_true]at this
  exact Nat.eq_of_beq_eq_true this.1
 ·have:=(H t (by rw[hk];simp)).1
  simp only[XU,hk,Bool.and_eq_true]at this
  exact⟨Nat.eq_of_beq_eq_true this.1.1.1.1.1.1,KN this.1.1.1.1.1.2⟩
 ·have:=(H t (by rw[hk];simp)).1
  simp only[XU,hk,Bool.and_eq_true]at this
  refine⟨Nat.le_of_ble_eq_true this.1.1.1.1.2,this.1.1.1.2,fun i hi=> ?_,Nat.le_of_ble_eq_true this.1.2⟩
  have:=this.1.1.2
  rw[hi]at this
  exact Nat.le_of_ble_eq_true this
 ·have:=(H t (by rw[hk];simp)).1
  simp only[XU,hk,Bool.and_eq_true]at this
  exact Nat.eq_of_beq_eq_true this.1.1
 ·have:=(H t (by rw[hk];simp)).1
  simp only[XU,hk,Bool.and_eq_true]at this
  exact⟨Nat.eq_of_beq_eq_true this.1.1,KN this.1.2⟩
 ·have:=(H t (by rw[hk];simp)).1
  simp only[XU,hk,Bool.and_eq_true,List.all_eq_true]at this
  exact fun ft hf=>KN (this.1.2 ft hf)
 ·have:=(H t hk).2
  simp only[AJn]at this
  split at this
  ·rename_i i hi
   split at this
   ·rename_i z hz
    simp only[Bool.and_eq_true]at this
    exact⟨i,z,hi,hz,AQ3 _ this.2,this.1⟩
   ·cases this
  ·cases this
 ·have hK:K P t≠ .bad:=by
   have e:Nat.blt t P.types.size=true:=Nat.ble_eq_true_of_le ht
   unfold K;rw[if_neg (by rw[e];simp),hu];simp
  have:=(H t hK).1
  simp only[XU,hu,Bool.and_eq_true]at this
  intro i f hf
  have:=SL F.toList 0 (fun g=>P.cellsOf g.type) this.2 i f (by rw[Array.getElem?_toList];exact hf)
  simpa using this
end AM
end
section
namespace AM
open Go
section
variable {P:Program} {A:Ann} {O:Orc} {g g':G} {w w':World}
def NO (S:List Nat) (st:St):Prop:=∀i e xs,st.get i= .lst e .own xs→Ak i S=true
def Ou (P:Program) (S:List Nat) (t:TypeId) (x:Operand):Bool:=
 CS P depth t||match x with
  | .tmp i=> !Ak i S
  |_=>true
def Ii (S:List Nat) (o:Oper):Bool:=
 match o.dst with
 |some d=>Ak d S
 |none=>false
def isSlice (P:Program) (t:TypeId):Bool:=
 match K P t with
 | .slice _=>true
 |_=>false
def NH (P:Program) (t:TypeId):Bool:=
 match P.underlying t with
 |some (.slice _)=>true
 |_=>false
def AJo (P:Program) (t:TypeId):Bool:=(P.underlying t).isSome
def Ls (P:Program) (t:TypeId):Bool:=
 match P.underlying t with
 |some .string=>true
 |some (.slice _)=>true
 |_=>false
def NI (A:Ann):Operand→Bool
 | .func f=>match A.ret f with
   | .own=>false
   |_=>true
 |_=>false
def G6 (P:Program) (A:Ann) (S:List Nat) (n:Nat) (fn:FuncId) (rid i:Nat) (o:Oper):Bool:=
 (match o.dst with
  |some d=>Nat.blt d n
  |none=>true)&&
 match o.op with
 | .move x=>if Ak i (A.take fn rid)then Ii S o else Ou P S o.type x
 | .assign x=>if Ak i (A.take fn rid)then Ii S o else Ou P S o.type x
 | .pick _ x y=>Ou P S o.type x&&Ou P S o.type y
 | .alloc t=>Lr (K P t)&&o.dst.isSome
 | .box _ _=>o.dst.isSome
 | .store _ _ _=>o.dst.isNone
 | .load t _=>if Ak i (A.take fn rid)then isSlice P t&&Ii S o else !Ak i (A.muts fn rid)
 | .convert s d _=>AJo P s&&(if NH P d then isSlice P d&&(Ak i (A.muts fn rid)||Ii S o)&&o.dst.isSome else !Ak i (A.muts fn rid))
 | .makeSlice _ _ _=>(Ak i (A.muts fn rid)||Ii S o)&&o.dst.isSome
 | .buildSlice _ _ _=>(Ak i (A.muts fn rid)||Ii S o)&&o.dst.isSome
 | .call {callee:= .builtin .append,args,argTypes}=>Nat.beq args.size 2&&Nat.beq argTypes.size 2&&Ls P (argTypes.getD 1 0)&&(Ak i (A.muts fn rid)||Ii S o)&&o.dst.isSome
 | .call {callee:= .builtin .copy,args,argTypes}=>Nat.beq args.size 2&&Nat.beq argTypes.size 2&&isSlice P (argTypes.getD 0 0)
 | .call {callee:= .value x,args,argTypes}=>Nat.beq args.size argTypes.size&&(match o.dst with|some d=>Ak d S||NI A x|| !isFn x|none=>true)
 | .panic _=>true
 | .makeInterface _ _=>true
 |_=>AEi P o&& !Ak i (A.muts fn rid)
theorem Dx (a:Act) (dst:Option Tmp) (c:Value):(a.put dst c).tmps.size=a.tmps.size∧(a.put dst c).defers=a.defers:=by
 cases dst<;>simp[Act.put]
theorem NO.put {S:List Nat} {st:St} (N:NO S st) {dst:Option Tmp} {v:V} (h:v.noOwn=true∨∃d,dst=some d∧Ak d S=true):NO S (st.put dst v):=by
 cases dst with
 |none=>exact N
 |some d=>
  intro i e xs hi
  simp only[St.put,St.get]at hi
  rw[Bl]at hi
  split at hi
  ·rename_i hd
   subst hd
   rcases h with h|⟨d',hd',hs⟩
   ·subst hi;simp[V.noOwn]at h
   ·cases hd';exact hs
  ·exact N i e xs hi
theorem NO.give {S:List Nat} {st:St} (N:NO S st) (x:Operand):NO S (st.give x):=by
 cases x with
 |tmp t=>
  intro i e xs hi
  simp only[St.give,St.get]at hi
  rw[Bl]at hi
  split at hi
  ·rename_i hd
   subst hd
   refine N i e xs ?_
   simp only[St.get]
   generalize look i st.s=v at hi⊢
   cases v with
   |lst e' f ys=>cases f<;>simp[V.weak]at hi⊢<;>simp_all
   |_=>simp[V.weak]at hi
  ·exact N i e xs hi
 |const c=>exact N
 |global i=>exact N
 |func f=>exact N
theorem AEk {Sl:List Nat} {st:St} {a:Act} (S:SR P A g w st a.tmps) (N:NO Sl st) {t t':TypeId} {x:Operand} (h:Ou P Sl t x=true) (hs:CS P depth t=false):(st.ev P A t' x).noOwn=true:=by
 rcases S.ev_own t' x with h'|⟨i,e,xs,rfl,_,hi,_⟩
 ·exact h'
 ·simp only[Ou,hs,Bool.false_or,Bool.not_eq_true']at h
  rw[N i e xs hi]at h;cases h
theorem AQ5 {Sl:List Nat} {st:St} {a:Act} (S:SR P A g w st a.tmps) (N:NO Sl st) {t:TypeId} {x:Operand} (h:Ou P Sl t x=true):
 VR P g w (cp P t (st.ev P A t x)) (a.eval x)∧(cp P t (st.ev P A t x)).noOwn=true:=AJi S t x fun hs=>AEk S N h hs
theorem ABD {P:Program} {A:Ann} {S:List Nat} {n:Nat} {fn:FuncId} {rid i:Nat} {o:Oper} (h:G6 P A S n fn rid i o=true):∀d,o.dst=some d→d<n:=by
 intro d hd
 simp only[G6,Bool.and_eq_true]at h
 have h1:=h.1
 rw[hd]at h1
 exact Nat.le_of_ble_eq_true h1
structure Aft (P:Program) (A:Ann) (S:List Nat) (g:G) (w:World) (a:Act) (st':St) (a':Act) (w':World):Prop where
 ex:∃g',Ext g w g' w'∧SR P A g' w' st' a'.tmps
 no:NO S st'
 size:a'.tmps.size=a.tmps.size
 defers:a'.defers=a.defers
theorem Zb {Sl:List Nat} {st:St} {a:Act} (S:SR P A g w st a.tmps) (N:NO Sl st) {o:Oper} (hd:∀d,o.dst=some d→d<a.tmps.size) {v:V} {c:Value} (hv:VR P g w v c) (hn:v.noOwn=true):
 Aft P A Sl g w a (st.put o.dst v) (a.put o.dst c) w:=
 ⟨⟨g,Ext.refl g w,S.putO hd hv (fun _ _ e xs h=>by subst h;simp[V.noOwn]at hn) (.inr hn)⟩,N.put (.inl hn),(Dx a o.dst c).1,(Dx a o.dst c).2⟩
theorem G7 {Sl:List Nat} {st':St} {a:Act} {d:Nat} {o:Oper} {v:V} {c:Value} (hd:o.dst=some d) (N:NO Sl st') (hs:v.noOwn=true∨Ak d Sl=true) (h:∃g',Ext g w g' w'∧SR P A g' w' (st'.put (some d) v) (a.tmps.set! d c)):
 Aft P A Sl g w a (st'.put o.dst v) (a.put o.dst c) w':=by
 obtain⟨g',E,S'⟩:=h
 rw[hd]
 refine⟨⟨g',E,S'⟩,N.put (hs.imp id fun h=>⟨d,rfl,h⟩),?_,?_⟩<;>simp[Act.put]
theorem Ij {α:Type} {c:V} {x y:Option α} {r:α} (h:V.ite c x y=some r):(c= .bool true∧x=some r)∨(c= .bool false∧y=some r):=by
 unfold V.ite at h
 split at h
 ·exact .inl ⟨rfl,h⟩
 ·exact .inr ⟨rfl,h⟩
 ·cases h
def Jl (P:Program) (A:Ann) (Sl:List Nat) (R:Type) (g:G) (w:World) (a:Act) (o:Oper) (k:St→Option R) (r:R):Prop:=
 ∀(K:Act→World→Prop) (Q:Exit→Act→World→Prop),(∀st' a' w',k st'=some r→Aft P A Sl g w a st' a' w'→K a' w')→o.wp P a w K Q
theorem CW {R:Type} {Sl:List Nat} {a:Act} {o:Oper} {k:St→Option R} {r:R} {st':St} {c:Value} (hrun:(execOp a.eval o).run P w= .ok (.value c) w') (hk:k st'=some r) (h:Aft P A Sl g w a st' (a.put o.dst c) w'):
 Jl P A Sl R g w a o k r:=by
 intro K Q hK
 unfold Oper.wp
 rw[hrun]
 exact hK _ _ _ hk h
theorem SN (L:Lay P) {Sl:List Nat} {st:St} {a:Act} {o:Oper} {R:Type} {k:St→Option R} {r:R} {e:TypeId} {xs:List V} {c:Value} {fn:FuncId} {rid i:Nat} {f:Fl}
 (S:SR P A g w st a.tmps) (N:NO Sl st) (F:Fresh P g w e xs c w') (hf:f= .own∧AU xs=true∨f= .lent) (hno:BG xs=true) (hrun:(execOp a.eval o).run P w= .ok (.value c) w') {d:Nat} (hd:o.dst=some d) (hlt:d<a.tmps.size)
 (hm:Ak i (A.muts fn rid)=true∨Ii Sl o=true)
 (h:(if Ak i (A.muts fn rid)then(Dp st.h (.lst e f xs)).bind fun r=>k ({st with h:=r.2}.put o.dst r.1)else k (st.put o.dst (.lst e f xs)))=some r):Jl P A Sl R g w a o k r:=by
 by_cases hmu:Ak i (A.muts fn rid)=true
 ·rw[if_pos hmu]at h
  rcases hf with⟨rfl,hcl⟩|rfl
  ·simp only[Dp,Option.bind_some]at h
   have hb:=F.box L (DK 0 xs hcl) (Lp hno) S hlt
   exact CW hrun h (G7 (st':={st with h:=st.h++[V.row e xs]}) hd N (.inl rfl) hb)
  ·simp[Dp]at h
 ·rw[if_neg hmu]at h
  have hs:Ak d Sl=true:=by
   rcases hm with hm|hm
   ·exact(hmu hm).elim
   ·simpa [Ii,hd]using hm
  rcases hf with⟨rfl,hcl⟩|rfl
  ·exact CW hrun h (G7 hd N (.inr hs) (F.own L hcl S hlt))
  ·exact CW hrun h (G7 hd N (.inr hs) (F.lent L S hlt))
def SQ (o:Oper):Bool:=
 match o.op with
 | .call {callee:= .value _,..}=>false
 |_=>true
theorem NO.h {S:List Nat} {st:St} (N:NO S st) (h:List V):NO S {st with h:=h}:=N
theorem AQ6 (L:Lay P) {R:Type} {Sl:List Nat} {st:St} {a:Act} {o:Oper} {fn:FuncId} {rid i:Nat} {k:St→Option R} {r:R}
 (hc:G6 P A Sl a.tmps.size fn rid i o=true) (hnc:SQ o=true) (S:SR P A g w st a.tmps) (N:NO Sl st) (h:op P A O fn rid i o st k=some r):Jl P A Sl R g w a o k r:=by
 have hd:=ABD hc
 simp only[G6,Bool.and_eq_true]at hc
 replace hc:=hc.2
 have value:AEi P o=true→Ak i (A.muts fn rid)=false→(∀s d x,o.op= .convert s d x→∃D,P.underlying s=some D)→
  ((pureOp P A st o).bind fun v=>k (st.put o.dst v))=some r→Jl P A Sl R g w a o k r:=by
  intro hk hm hs h
  obtain⟨v,hv,h⟩:=Option.bind_eq_some_iff.1 h
  obtain⟨c,h1,h2,h3⟩:=AJm L S hk hs hv
  exact CW h1 h (Zb S N hd h2 h3)
 have plain:∀{x:Operand} {v:V},(execOp a.eval o).run P w= .ok (.value (a.eval x)) w→Ou P Sl o.type x=true→k (st.put o.dst (cp P o.type (st.ev P A o.type x)))=some r→Jl P A Sl R g w a o k r:=by
  intro x v hrun hok h
  obtain⟨h1,h2⟩:=AQ5 S N hok
  exact CW hrun h (Zb S N hd h1 h2)
 have take:∀{x:Operand},(execOp a.eval o).run P w= .ok (.value (a.eval x)) w→Ii Sl o=true→k ((st.give x).put o.dst (st.ev P A o.type x))=some r→Jl P A Sl R g w a o k r:=by
  intro x hrun hok h
  unfold Ii at hok
  split at hok
  ·rename_i d hdst
   have:=AEh S (hd d hdst) o.type x
   exact CW hrun h (G7 hdst (N.give x) (.inr hok) this)
  ·cases hok
 obtain⟨dst,op,type,pos,after,guard⟩:=o
 simp only at hd hc
 unfold AM.op at h
 split at h
 rotate_left
 ·cases h
 rename_i hlow
 clear hlow
 unfold AM.op0 at h
 simp only at h
 split at h
 · -- move
   rename_i x
   simp only at hc
   split at h
   ·rename_i hm;rw[if_pos hm]at hc
    exact take rfl hc h
   ·rename_i hm;rw[if_neg hm]at hc
    exact plain (v:= .undef) rfl hc h
 ·rename_i x
  simp only at hc
  split at h
  ·rename_i hm;rw[if_pos hm]at hc
   exact take rfl hc h
  ·rename_i hm;rw[if_neg hm]at hc
   exact plain (v:= .undef) rfl hc h
 · -- pick
   rename_i c x y
   simp only[Bool.and_eq_true]at hc
   rcases Ij h with⟨hb,h⟩|⟨hb,h⟩
   ·have hVc:=S.ev 0 c
    rw[hb]at hVc
    refine plain (v:= .undef) (x:=x) ?_ hc.1 h
    simp only[execOp,hVc.bool',asBool,Sem.run_bind,Sem.run_pure,Result.andThen_ok,if_true]
   ·have hVc:=S.ev 0 c
    rw[hb]at hVc
    refine plain (v:= .undef) (x:=y) ?_ hc.2 h
    simp only[execOp,hVc.bool',asBool,Sem.run_bind,Sem.run_pure,Result.andThen_ok,Bool.false_eq_true,if_false]
 · -- alloc
   rename_i t
   simp only[Bool.and_eq_true]at hc
   obtain⟨d,hdst⟩:=Option.isSome_iff_exists.1 hc.2
   obtain⟨c,w',g',h1,h2,h3⟩:=AEf L S (hd d hdst) (KN hc.1)
   exact CW (w':=w') (c:=c) (by simp only[execOp,Sem.run_bind,h1,Result.andThen_ok,Sem.run_pure]) h (G7 (o:=⟨dst,.alloc t,type,pos,after,guard⟩) (st':={st with h:=st.h++[zero P t]}) hdst N (.inl rfl) ⟨g',h2,h3⟩)
 · -- box
   rename_i t x
   simp only at hc
   obtain⟨d,hdst⟩:=Option.isSome_iff_exists.1 hc
   split at h
   ·rename_i hok
    simp only[Bool.and_eq_true]at hok
    obtain⟨c,w',g',h1,h2,h3⟩:=AMk L S (hd d hdst) (S.ev t x) hok.1 hok.2
    exact CW (w':=w') (c:=c) (by simp only[execOp,Sem.run_bind,h1,Result.andThen_ok,Sem.run_pure]) h (G7 (o:=⟨dst,.box t x,type,pos,after,guard⟩) (st':={st with h:=st.h++[cp P t (st.ev P A t x)]}) hdst N (.inl rfl) ⟨g',h2,h3⟩)
   ·cases h
 · -- store
   rename_i t ao x
   simp only[Option.isNone_iff_eq_none]at hc
   subst hc
   split at h
   rotate_left
   ·cases h
   obtain⟨h',hs,h⟩:=Option.bind_eq_some_iff.1 h
   obtain⟨w',g',h1,h2,h3⟩:=AEg L S hs
   intro K Q hK
   unfold Oper.wp
   simp only[execOp,Sem.run_bind,h1,Result.andThen_ok,Sem.run_pure,Oper.upon]
   exact hK _ _ _ h ⟨⟨g',h2,h3⟩,(N.give x).h h',rfl,rfl⟩
 · -- load
   rename_i t ao
   simp only at hc
   split at h
   rotate_left
   ·cases h
   split at h
   ·rename_i hm;rw[if_pos hm]at hc
    simp only[Bool.and_eq_true]at hc
    obtain⟨⟨v,h'⟩,hv,h⟩:=Option.bind_eq_some_iff.1 h
    have hc2:=hc.2
    unfold Ii at hc2
    split at hc2
    ·rename_i d hdst
     have hk:∃e,K P t= .slice e:=by
      have:=hc.1
      unfold isSlice at this
      split at this
      ·exact⟨_,by assumption⟩
      ·cases this
     obtain⟨e,hk⟩:=hk
     obtain⟨c,g',h1,h2,h3⟩:=ABC L S (hd d hdst) hk hv
     exact CW (w':=w) (c:=c) (by simp only[execOp,Sem.run_bind,h1,Result.andThen_ok,Sem.run_pure]) h (G7 (o:=⟨dst,.load t ao,type,pos,after,guard⟩) (st':={st with h:=h'}) hdst (N.h h') (.inr hc2) ⟨g',h2,h3⟩)
    ·cases hc2
   ·rename_i hm;rw[if_neg hm]at hc
    exact value rfl (by simpa using hc) (by simp) h
 · -- copy
   rename_i args argTypes
   simp only[Bool.and_eq_true]at hc
   obtain⟨⟨q1,q2⟩,q3⟩:=hc
   obtain⟨x,y,rfl⟩:=size_two (Nat.eq_of_beq_eq_true q1)
   obtain⟨t,u,rfl⟩:=size_two (Nat.eq_of_beq_eq_true q2)
   have hk:∃e,K P t= .slice e:=by
    have:isSlice P t=true:=q3
    unfold isSlice at this
    split at this
    ·exact⟨_,by assumption⟩
    ·cases this
   obtain⟨e,hk⟩:=hk
   have h':((cpy P t st.h (st.ev P A t x) (st.ev P A u y)).bind fun r=>k ({st with h:=r.2}.put dst r.1))=some r:=h
   obtain⟨rr,hr,h'⟩:=Option.bind_eq_some_iff.1 h'
   obtain⟨c,w',g',h1,h2,h3,h4⟩:=AMm (sT:=u) (ty:=type) L S hd hk hr
   refine CW (w':=w') (c:=c) ?_ h' ⟨⟨g',h2,h3⟩,NO.put (N.h rr.2) (.inl h4),(Dx a dst c).1,(Dx a dst c).2⟩
   simp only[execOp,resolve,invoke,builtin,Sem.run_bind,Sem.run_pure,Result.andThen_ok,List.map_toArray,List.map_cons,List.map_nil,h1]
 · -- append
   rename_i args argTypes
   simp only[Bool.and_eq_true,Bool.or_eq_true]at hc
   obtain⟨⟨⟨⟨q1,q2⟩,q3⟩,q4⟩,q5⟩:=hc
   obtain⟨x,y,rfl⟩:=size_two (Nat.eq_of_beq_eq_true q1)
   obtain⟨t,u,rfl⟩:=size_two (Nat.eq_of_beq_eq_true q2)
   obtain⟨d,rfl⟩:=Option.isSome_iff_exists.1 q5
   have hlt:=hd d rfl
   have hu:∃D,P.underlying u=some D∧(D= .string∨∃e',D= .slice e'):=by
    have:Ls P u=true:=q3
    unfold Ls at this
    split at this
    ·exact⟨_,by assumption,.inl rfl⟩
    ·exact⟨_,by assumption,.inr ⟨_,rfl⟩⟩
    ·cases this
   obtain⟨D,hu,hD⟩:=hu
   obtain⟨v,hv,h⟩:=Option.bind_eq_some_iff.1 h
   have hv':EP P t st.h (st.ev P A t x) (st.ev P A u y)=some v:=hv
   obtain⟨e,f,xs,zs,c,w',hx,hf,hvz,hcl,hno,hrun,hR⟩:=AJh (ty:=type) L S.box hu hD hv' (S.ev t x) (S.ev u y) (fun e xs hx=>by
    rcases S.ev_own t x with h'|⟨i,e',xs',rfl,h1,h2,h3,h4⟩
    ·rw[hx]at h';simp[V.noOwn]at h'
    ·rw[h1]at hx;cases hx;exact⟨_,h4⟩)
   have hrun':(execOp a.eval ⟨some d,.call {callee:= .builtin .append,args:= #[x,y],argTypes:= #[t,u]},type,pos,after,guard⟩).run P w= .ok (.value c) w':=by
    simp only[execOp,resolve,invoke,builtin,Sem.run_bind,Sem.run_pure,Result.andThen_ok,List.map_toArray,List.map_cons,List.map_nil,hrun]
   have nilc:f= .nil→a.eval x= .slice none 0 0:=by
    intro hfn
    subst hfn
    have:=(S.ev t x)
    rw[hx]at this
    generalize a.eval x=cc at this
    cases this.leaf' rfl (by simp)with
    |nil=>rfl
    |emp _ _ _ _ h=>exact(h rfl).elim
    |lst _ _ _ _ _ _ _ h=>exact(h rfl).elim
   clear value plain take
   replace h:(if Ak i (A.muts fn rid)then(match[x,y]with
    | .const (.slice none 0 0)::_=>(Dp (st.give x).h v).bind fun r=>k ({(st.give x)with h:=r.2}.put (some d) r.1)
    |_=>none)else k ((st.give x).put (some d) v))=some r:=h
   by_cases hm:Ak i (A.muts fn rid)=true
   ·rw[if_pos hm]at h
    split at h
    ·rename_i hxx
     simp only[List.cons.injEq]at hxx
     obtain⟨rfl,_⟩:=hxx
     have htb:Dp (st.give (.const (.slice none 0 0))).h v=some (.win st.h.length [] 0 zs.length e,st.h++[.row e zs]):=by
      rcases hvz with⟨rfl,_⟩|⟨rfl,_,rfl,_⟩<;>rfl
     rw[htb,Option.bind_some]at h
     have hx0:st.ev P A t (.const (.slice none 0 0))= .lst (GL P t) .nil []:=rfl
     rw[hx0]at hx
     cases hx
     have hb:=AppR.box_nil L S hlt hR hcl (hno rfl)
     exact CW hrun' h (G7 (o:=⟨some d,.call {callee:= .builtin .append,args:= #[.const (.slice none 0 0),y],argTypes:= #[t,u]},type,pos,after,guard⟩) (st':={st with h:=st.h++[V.row _ zs]}) rfl N (.inl rfl) hb)
    ·cases h
   ·rw[if_neg hm]at h
    have hs:Ak d Sl=true:=by
     rcases q4 with q4|q4
     ·exact(hm q4).elim
     ·simpa [Ii]using q4
    rcases hvz with⟨rfl,hne⟩|⟨rfl,_,_,rfl,rfl⟩
    rotate_left
    ·exact CW hrun' h (G7 (o:=⟨some d,.call {callee:= .builtin .append,args:= #[x,y],argTypes:= #[t,u]},type,pos,after,guard⟩) rfl (N.give x) (.inl rfl) ⟨g,Ext.refl g w',(S.give' x).put hlt (.lf rfl (.nil e)) (fun e' ys hh=>by cases hh) (.inr rfl)⟩)
    rcases hf with rfl|rfl
    ·rcases S.ev_own t x with h'|⟨j,e',xs',rfl,h1,h2,h3,h4⟩
     ·rw[hx]at h';simp[V.noOwn]at h'
     ·rw[h1]at hx;cases hx
      rw[h3]at hR
      exact CW hrun' h (G7 (o:=⟨some d,.call {callee:= .builtin .append,args:= #[.tmp j,y],argTypes:= #[t,u]},type,pos,after,guard⟩) rfl (N.give (.tmp j)) (.inr hs) (AppR.sr L S h2 hlt hR hcl))
    ·rw[nilc rfl]at hR
     exact CW hrun' h (G7 (o:=⟨some d,.call {callee:= .builtin .append,args:= #[x,y],argTypes:= #[t,u]},type,pos,after,guard⟩) rfl (N.give x) (.inr hs) (AppR.sr_nil L (S.give' x) hlt hR hcl (hne rfl)))
 · -- a call
   simp[SQ]at hnc
 · -- all others
   rename_i n1 n2 n3 n4 n5 n6 n7 n8 n9 n10
   have gen:(AEi P ⟨dst,op,type,pos,after,guard⟩&& !Ak i (A.muts fn rid))=true→(∀s d x,op= .convert s d x→∃D,P.underlying s=some D)→Jl P A Sl R g w a ⟨dst,op,type,pos,after,guard⟩ k r:=by
    intro hv hs
    simp only[Bool.and_eq_true,Bool.not_eq_true']at hv
    refine value hv.1 hv.2 hs ?_
    simp only[hv.2,Bool.false_eq_true,if_false]at h
    exact h
   cases op
   case convert s t x=>
    simp only[Bool.and_eq_true]at hc
    obtain⟨q1,hc⟩:=hc
    obtain⟨D,hD⟩:=Option.isSome_iff_exists.1 (show(P.underlying s).isSome=true from q1)
    by_cases hus:NH P t=true
    ·rw[if_pos hus]at hc
     simp only[Bool.and_eq_true,Bool.or_eq_true]at hc
     obtain⟨⟨hsl,q2⟩,q4⟩:=hc
     obtain⟨d,rfl⟩:=Option.isSome_iff_exists.1 q4
     have hk:∃e,K P t= .slice e:=by
      unfold isSlice at hsl
      split at hsl
      ·exact⟨_,by assumption⟩
      ·cases hsl
     obtain⟨e,hk⟩:=hk
     obtain⟨v,hv,h⟩:=Option.bind_eq_some_iff.1 h
     have hv':conv P st.h s t (st.ev P A s x)=some v:=hv
     unfold conv at hv'
     rw[Df hk]at hv'
     split at hv'
     ·rename_i k k' n hh hx;cases hh
     ·rename_i b hh hx;cases hh
     ·rename_i e' b hh hxs
      cases hh
      split at hv'
      ·rename_i heu
       split at hv'
       ·rename_i hlen
        obtain rfl:=Option.some.inj hv'
        have hVx:=S.ev s x
        rw[hxs]at hVx
        obtain⟨z,hz,hz2⟩:=hVx.str'
        subst hz2
        obtain⟨c,w',h1,F⟩:=NF (g:=g) (w:=w) L hk heu z hlen
        refine SN (fn:=fn) (rid:=rid) (i:=i) (f:= .own) L S N F (.inl ⟨rfl,(Ot _).1⟩) (Ot _).2 ?_ rfl (hd d rfl) ?_ h
        ·simp only[execOp,convert,Sem.run_bind,Ad hD,Ad (Df hk),Result.andThen_ok,hz]
         cases D<;>simp only[Sem.run_bind,Ad heu,Result.andThen_ok,h1,Sem.run_pure]
        ·exact q2
       ·cases hv'
      ·cases hv'
     ·rename_i hh _;cases hh
     ·cases hv'
    ·rw[if_neg hus]at hc
     refine gen ?_ (fun s' d' x' hh=>by cases hh;exact⟨D,hD⟩)
     rw[hc,Bool.and_true]
     simp only[AEi]
     unfold NH at hus
     split
     ·rename_i e hu
      rw[hu]at hus;exact(hus rfl).elim
     ·rfl
   case makeSlice t l c=>
    simp only[Bool.and_eq_true,Bool.or_eq_true]at hc
    obtain⟨d,rfl⟩:=Option.isSome_iff_exists.1 hc.2
    obtain⟨v,hv,h⟩:=Option.bind_eq_some_iff.1 h
    have hv':mkS P t (st.ev P A 0 l) (st.ev P A 0 c)=some v:=hv
    obtain⟨e,xs,c',w',rfl,h1,h2,h3,F⟩:=AMh L hv' (S.ev 0 l) (S.ev 0 c)
    exact SN (fn:=fn) (rid:=rid) (i:=i) L S N F (.inl ⟨rfl,h1⟩) h2 (by simp only[execOp,Sem.run_bind,h3,Result.andThen_ok,Sem.run_pure]) rfl (hd d rfl) hc.1 h
   case buildSlice t n ps=>
    simp only[Bool.and_eq_true,Bool.or_eq_true]at hc
    obtain⟨d,rfl⟩:=Option.isSome_iff_exists.1 hc.2
    obtain⟨v,hv,h⟩:=Option.bind_eq_some_iff.1 h
    have hv':DR P t n (ps.toList.map fun(p:Nat×Operand)=>(p.1,st.ev P A (GL P t) p.2))=some v:=hv
    obtain⟨e,f,xs,c',w',rfl,h1,h2,h3,F⟩:=AJe L hv' (PR.of S (fun _=>GL P t) ps.toList)
    refine SN (fn:=fn) (rid:=rid) (i:=i) L S N F h1 h2 ?_ rfl (hd d rfl) hc.1 h
    have e1:(ps.map fun(p:Nat×Operand)=>(p.1,a.eval p.2))=(ps.toList.map fun p=>(p.1,a.eval p.2)).toArray:=by apply Array.ext';simp
    have h3':(Instr.buildSlice t n (ps.map fun(p:Nat×Operand)=>(p.1,a.eval p.2))).run P w= .ok c' w':=by rw[e1];exact h3
    simp only[execOp,Sem.run_bind,Sem.run_pure]
    rw[show(ps.map fun x=>match x with|(i,x)=>(i,a.eval x))=ps.map fun(p:Nat×Operand)=>(p.1,a.eval p.2)from rfl,h3']
    rfl
   case call cl=>
    obtain⟨callee,args,argTypes⟩:=cl
    cases callee with
    |value x=>simp[SQ]at hnc
    |invoke x n=>exact gen hc (by simp)
    |builtin b=>
     cases b<;>first
      |exact gen hc (by simp)
      |(exfalso;solve_by_elim)
   case panic x=>simp[pureOp]at h
   case makeInterface t x=>simp[pureOp]at h
   all_goals first
    |exact gen hc (by simp)
    |(exfalso;solve_by_elim)
end
end AM
end
section
namespace AM
open Go
section
variable {P:Program} {A:Ann} {O:Orc} {g g':G} {w w':World}
theorem LR.congr {g2:G} (h1:g2.β=g.β) (h2:g2.ty=g.ty) (h3:g2.ro=g.ro) (h4:g2.lro=g.lro) {v:V} {c:Value} (h:LR P g w v c):LR P g2 w v c:=by
 induction h with
 |bool b=>exact .bool b
 |int k n=>exact .int k n
 |str s=>exact .str s
 |nilp=>exact .nilp
 |nilf=>exact .nilf
 |nili=>exact .nili
 |ifv te pe=>exact .ifv te pe
 |undef c hc=>exact .undef c hc
 |nil e=>exact .nil e
 |emp e f a cap hf hs=>exact .emp e f a cap hf hs
 |lst e f xs b off cap cs hf ht hcl hn hc hl hb hro hcap ih=>
  refine .lst e f xs b off cap cs hf ht hcl hn hc ih hb ?_ hcap
  have:g2.lim f b=g.lim f b:=by cases f<;>simp[G.lim,h3,h4]
  rw[this];exact hro
 |win id p off len e bt o n b cap a1 a2 a3 a4 a5 a6=>exact .win id p off len e bt o n b cap (by rw[h2];exact a1) a2 a3 (by rw[h1];exact a4) a5 a6
 |win0 id p off e bt o n a cap a1 a2 a3 a4=>exact .win0 id p off e bt o n a cap (by rw[h2];exact a1) a2 a3 a4
 |ref id p t bt o b a1 a2 a3=>exact .ref id p t bt o b (by rw[h2];exact a1) a2 (by rw[h1];exact a3)
 |rop t x b off cs ht hn hc hl hb hro ih=>exact .rop t x b off cs ht hn hc ih hb (by rw[h4];exact hro)
 |clo f vs cs hn hl ih=>exact .clo f vs cs hn ih
theorem AR.congr {g2:G} (h1:g2.β=g.β) (h2:g2.ty=g.ty) (h3:g2.ro=g.ro) (h4:g2.lro=g.lro) {v:V} {c:Value} (h:AR P g w v c):AR P g2 w v c:=by
 cases h with
 |leaf hv h=>exact .leaf hv (h.congr h1 h2 h3 h4)
 |agg ht hn h=>exact .agg ht hn fun j x c a b=>(h j x c a b).congr h1 h2 h3 h4
theorem VR.congr {g2:G} (h1:g2.β=g.β) (h2:g2.ty=g.ty) (h3:g2.ro=g.ro) (h4:g2.lro=g.lro) {v:V} {c:Value} (h:VR P g w v c):VR P g2 w v c:=by
 cases h with
 |val h=>exact .val (h.congr h1 h2 h3 h4)
 |dead c=>exact .dead c
 |tup a b h=>exact .tup a b fun j x c e f=>(h j x c e f).congr h1 h2 h3 h4
def ABE (P:Program) (A:Ann) (f:FuncId) (vs:List V) (h:List V) (r:V×List V):Prop:=
 ∀(g:G) (w:World) (args:Array Value) (l:Nat⊕(Nat×Nat)),BX P g w h→WG g w→GlobOk P A g w→(∀b i,g.H b≠some (.inl i))→
  vs.length=args.size→(∀(i:Nat) (v:V) (c:Value),vs[i]?=some v→args[i]?=some c→VR P g w v c)→BG vs=true→
  Calls P f args w fun e w'=>∃c g',e= .returned c∧Ext g w g' w'∧VR P g' w' r.1 c∧(∀e xs,r.1= .lst e .own xs→Own P g' w' e xs.length c l)∧((∃e xs,r.1= .lst e .own xs)∨r.1.noOwn=true)∧
   BX P g' w' r.2∧WG g' w'∧GlobOk P A g' w'
def G.down (g:G):G:={g with H:=fun b=>match g.H b with
 |some (.inr x)=>some (.inr x)
 |_=>none}
def G.up (g g':G):G:={g' with H:=fun b=>match g.H b with
 |some (.inl i)=>some (.inl i)
 |_=>g'.H b}
theorem AJp {b:Nat} {x:Nat×Nat}:g.down.H b=some (.inr x)↔g.H b=some (.inr x):=by
 simp only[G.down]
 split
 ·rename_i y hy;rw[hy]
 ·rename_i hn
  constructor
  ·intro h;cases h
  ·intro h;exact(hn x h).elim
theorem AEl {b:Nat} {i:Nat} (h:g.H b=some (.inl i)):g.down.H b=none:=by simp[G.down,h]
theorem BX.down {h:List V} (B:BX P g w h):BX P g.down w h:=by
 refine⟨B.len,B.tys,B.inj,B.has,B.void,B.low,fun i v b hv hb=> ?_⟩
 obtain⟨cs,e,fz,c1,c2,c3,c4⟩:=B.cells i v b hv hb
 refine⟨cs,e,fz,c1,c2,c3,fun j x hx=> ?_⟩
 obtain⟨c,d1,d2,d3⟩:=c4 j x hx
 refine⟨c,d1,LR.congr (g:=g) (g2:=g.down) rfl rfl rfl rfl d2,fun e xs hh=> ?_⟩
 rcases d3 e xs hh with h|⟨b',off,len,cap,cs,e',fz,h1,h2,h3,h4,h5,h6,h7,h8⟩
 ·exact .inl h
 ·exact .inr ⟨b',off,len,cap,cs,e',fz,h1,AJp.2 h2,h3,h4,h5,h6,h7,h8⟩
theorem WG.down (W:WG g w):WG g.down w:=by
 refine⟨fun b hb=> ?_,fun i b hb=> ?_,W.le⟩
 ·obtain⟨h1,h2,h3⟩:=W.fresh b hb
  exact⟨by simp[G.down,h1],h2,h3⟩
 ·obtain⟨h1,h2,h3,h4⟩:=W.box i b hb
  exact⟨h1,h2,h3,by simp[G.down,h4]⟩
theorem ATw {st:St} {tm:Array Value} (S:SR P A g w st tm) (E:Ext g.down w g' w') {h':List V} (B:BX P g' w' h') (W:WG g' w') (Gl:GlobOk P A g' w'):
 Ext g w (g.up g') w'∧SR P A (g.up g') w' {st with h:=h'} tm∧(∀{e:TypeId} {n:Nat} {c:Value} {l:Nat⊕(Nat×Nat)},Own P g' w' e n c l→Own P (g.up g') w' e n c l):=by
 have held:∀{b i},g.H b=some (.inl i)→b<w.heap.size∧g.down.H b=none:=by
  intro b i hb
  refine⟨?_,AEl hb⟩
  rcases Nat.lt_or_ge b w.heap.size with h|h
  ·exact h
  ·rw[(S.wg.fresh b h).1]at hb;cases hb
 have nobox:∀{b i},g.H b=some (.inl i)→some b∉g.β:=by
  intro b i hb hm
  obtain⟨k,hk,hkk⟩:=List.mem_iff_getElem.1 hm
  have:=(S.wg.box k b (by rw[List.getElem?_eq_getElem hk,hkk])).2.2.2
  rw[this]at hb;cases hb
 have gone:∀{b i},g.H b=some (.inl i)→w'.heap[b]?=w.heap[b]?∧g'.H b=none∧some b∉g'.β∧g'.ro b=g.ro b∧g'.lro b=g.lro b:=by
  intro b i hb
  exact E.same b (held hb).1 (held hb).2 (nobox hb)
 have upH:∀{b l},g'.H b=some l→(g.up g').H b=some l:=by
  intro b l hb
  simp only[G.up]
  split
  ·rename_i i hi
   have:=(gone hi).2.1
   rw[hb]at this;cases this
  ·exact hb
 have own:∀{e:TypeId} {n:Nat} {c:Value} {l:Nat⊕(Nat×Nat)},Own P g' w' e n c l→Own P (g.up g') w' e n c l:=by
  intro e n c l h
  rcases h with h|⟨b',off,len,cap,cs,e',fz,h1,h2,h3,h4,h5,h6,h7,h8⟩
  ·exact .inl h
  ·exact .inr ⟨b',off,len,cap,cs,e',fz,h1,upH h2,h3,h4,h5,h6,h7,h8⟩
 have E':Ext g w (g.up g') w':=by
  refine⟨E.os,E.tape,E.out,E.size,fun b hb h1 h2=> ?_,E.keep,E.beta,E.typ,E.bsz⟩
  obtain⟨a1,a2,a3,a4,a5⟩:=E.same b hb (by simp[G.down,h1]) h2
  exact⟨a1,by simp[G.up,h1,a2],a3,a4,a5⟩
 refine⟨E',⟨fun i=>(S.slot i).ext E' S.wg,fun i e xs hi=> ?_,S.nown,?_,?_,S.glob.ext E' S.wg⟩,own⟩
 ·rcases S.own i e xs hi with h|⟨b',off,len,cap,cs,e',fz,h1,h2,h3,h4,h5,h6,h7,h8⟩
  ·exact .inl h
  ·obtain⟨a1,a2,a3,a4,a5⟩:=gone h2
   exact .inr ⟨b',off,len,cap,cs,e',fz,h1,by simp[G.up,h2],a3,by rw[a1];exact h4,h5,fun j hj=>by rw[CP a1];exact h6 j hj,
    by show g'.ro b'=_;rw[a4];exact h7,by show g'.lro b'=g'.ro b';rw[a4,a5];exact h8⟩
 ·refine⟨B.len,B.tys,B.inj,B.has,B.void,B.low,fun i v b hv hb=> ?_⟩
  obtain⟨cs,e,fz,c1,c2,c3,c4⟩:=B.cells i v b hv hb
  refine⟨cs,e,fz,c1,c2,c3,fun j x hx=> ?_⟩
  obtain⟨c,d1,d2,d3⟩:=c4 j x hx
  exact⟨c,d1,LR.congr (g:=g') (g2:=g.up g') rfl rfl rfl rfl d2,fun e xs hh=>own (d3 e xs hh)⟩
 ·refine⟨fun b hb=> ?_,fun i b hb=> ?_,W.le⟩
  ·obtain⟨h1,h2,h3⟩:=W.fresh b hb
   refine⟨?_,h2,h3⟩
   simp only[G.up]
   split
   ·rename_i i hi
    have:=(held hi).1
    have:=E.size
    omega
   ·exact h1
  ·obtain⟨h1,h2,h3,h4⟩:=W.box i b hb
   refine⟨h1,h2,h3,?_⟩
   simp only[G.up]
   split
   ·rename_i k hk
    exact((gone hk).2.2.1 (List.mem_of_getElem? hb)).elim
   ·exact h4
end
end AM
end
section
namespace AM
open Go
mutual
theorem SS:∀v:V,v.clean=true→∀x∈v.fl,x.clean=true
 | .agg t fs,h,x,hx=>by simp only[V.fl]at hx;exact EZ fs (by simpa [V.clean]using h) x hx
 | .tup fs,h,x,hx=>by simp[V.fl]at hx;subst hx;exact h
 | .row t fs,h,_,_=>by simp[V.clean]at h
 | .lst e f xs,h,x,hx=>by simp[V.fl]at hx;subst hx;exact h
 | .bool _,h,x,hx=>by simp[V.fl]at hx;subst hx;exact h
 | .int _ _,h,x,hx=>by simp[V.fl]at hx;subst hx;exact h
 | .str _,h,x,hx=>by simp[V.fl]at hx;subst hx;exact h
 | .win _ _ _ _ _,h,_,_=>by simp[V.clean]at h
 | .ref _ _ _,h,_,_=>by simp[V.clean]at h
 | .rop _ _,h,_,_=>by simp[V.clean]at h
 | .nilp,h,x,hx=>by simp[V.fl]at hx;subst hx;exact h
 | .clo _ _,h,_,_=>by simp[V.clean]at h
 | .nilf,h,x,hx=>by simp[V.fl]at hx;subst hx;exact h
 | .nili,h,x,hx=>by simp[V.fl]at hx;subst hx;exact h
 | .ifv,h,x,hx=>by simp[V.fl]at hx;subst hx;exact h
 | .undef,h,_,_=>by simp[V.clean]at h
theorem EZ:∀vs:List V,AU vs=true→∀x∈BD vs,x.clean=true
 |[],_,x,hx=>by simp[BD]at hx
 |v::vs,h,x,hx=>by
  simp only[AU,Bool.and_eq_true]at h
  simp only[BD,List.mem_append]at hx
  rcases hx with hx|hx
  ·exact SS v h.1 x hx
  ·exact EZ vs h.2 x hx
end
section
variable {P:Program} {A:Ann} {O:Orc} {g g':G} {w w':World}
theorem LR.cleanTo {g2:G} (hro:∀b,b<w.heap.size→g.ro b≤g2.ro b) {v:V} {c:Value} (h:LR P g w v c):v.clean=true→LR P g2 w v c:=by
 induction h with
 |bool b=>intro _;exact .bool b
 |int k n=>intro _;exact .int k n
 |str s=>intro _;exact .str s
 |nilp=>intro _;exact .nilp
 |nilf=>intro _;exact .nilf
 |nili=>intro _;exact .nili
 |ifv te pe=>intro _;exact .ifv te pe
 |undef c hc=>intro h;simp[V.clean]at h
 |nil e=>intro _;exact .nil e
 |emp e f a cap hf hs=>intro _;exact .emp e f a cap hf hs
 |lst e f xs b off cap cs hf ht hcl hn hc hl hb hr hcap ih=>
  intro h
  have hnl:f≠ .lent:=by rintro rfl;simp[V.clean]at h
  refine .lst e f xs b off cap cs hf ht hcl hn hc (fun j x c h1 h2=>ih j x c h1 h2 (EZ xs (hcl hnl) x (List.mem_of_getElem? h1))) hb ?_ hcap
  have e1:g.lim f b=g.ro b:=by cases f<;>first|rfl|exact(hnl rfl).elim
  have e2:g2.lim f b=g2.ro b:=by cases f<;>first|rfl|exact(hnl rfl).elim
  rw[e2];rw[e1]at hr
  exact Nat.le_trans hr (hro b hb)
 |win id p off len e bt o n b cap a1 a2 a3 a4 a5 a6=>intro h;simp[V.clean]at h
 |win0 id p off e bt o n a cap a1 a2 a3=>intro h;simp[V.clean]at h
 |ref id p t bt o b a1 a2 a3=>intro h;simp[V.clean]at h
 |rop t x b off cs ht hn hc hl hb hro ih=>intro h;simp[V.clean]at h
 |clo f vs cs hn hl ih=>intro h;simp[V.clean]at h
theorem Dl (h:List V) (vs:List V):AB h vs=vs.map (V.reify h):=by
 induction vs with
 |nil=>rfl
 |cons v vs ihv=>simp only[AB,List.map_cons];rw[ihv]
theorem HT.reify (h:List V) {t:TypeId} {v:V} (ht:HT P t v):HT P t (v.reify h):=by
 induction ht with
 |scal hk hv ho=>
  rename_i t v
  cases v<;>simp[V.scal]at hv<;>simp only[V.reify]<;>first|exact .undef hk|(refine .scal hk rfl ?_;unfold Bd at ho⊢;split at ho<;>first|exact ho|(split at ho<;>first|exact ho|cases ho)|cases ho)
 |undef hk=>exact .undef hk
 |undefS hk=>exact .undefS hk
 |lst hk=>rename_i t e f xs;cases f<;>exact .lst hk
 |win hk=>
  simp only[V.reify]
  split
  ·split
   ·exact .lst hk
   ·exact .undefS hk
  ·exact .undefS hk
 |struct hk hl _ ih=>
  rename_i t u fs vs _
  have e:=Dl h vs
  simp only[V.reify]
  rw[e]
  refine .struct hk (by simp[hl]) fun i ft v h1 h2=> ?_
  rw[List.getElem?_map,Option.map_eq_some_iff]at h2
  obtain⟨v',h2,rfl⟩:=h2
  exact ih i ft v' h1 h2
 |array hk hl _ ih=>
  rename_i t u n e vs _
  have e:=Dl h vs
  simp only[V.reify]
  rw[e]
  refine .array hk (by simp[hl]) fun v hv=> ?_
  rw[List.mem_map]at hv
  obtain⟨v',hv,rfl⟩:=hv
  exact ih v' hv
def G.bare (g:G) (w:World):G:={β:=[],ty:=[],H:=fun _=>none,ro:=g.ro,lro:=fun b=>if some b∈g.β then max (g.lro b) (Az w b)else g.lro b}
theorem WG.bare (W:WG g w):WG (g.bare w) w:=by
 refine⟨fun b hb=> ?_,fun i b hb=>by simp[G.bare]at hb,fun b=> ?_⟩
 ·obtain⟨h1,h2,h3⟩:=W.fresh b hb
  refine⟨rfl,h2,?_⟩
  simp only[G.bare]
  split
  ·rename_i hm;have:=W.notbox hm;omega
  ·exact h3
 ·simp only[G.bare]
  have:=W.le b
  split
  ·omega
  ·exact this
theorem Zc (g:G) (w:World) (b:Nat):g.lro b≤(g.bare w).lro b:=by
 simp only[G.bare];split
 ·omega
 ·exact Nat.le_refl _
theorem BX.bare:BX P (g.bare w) w []:=by
 refine⟨rfl,rfl,?_,?_,?_,?_,?_⟩<;>simp[G.bare]
theorem LH (h:List V) {v:V} (hv:v.leafy=true):(v.reify h).leafy=true:=by
 cases v with
 |agg=>simp[V.leafy]at hv
 |row=>simp[V.leafy]at hv
 |tup=>simp[V.leafy]at hv
 |win id p off len e=>
  simp only[V.reify]
  split
  ·split<;>rfl
  ·rfl
 |lst e f xs=>cases f<;>rfl
 |_=>rfl
theorem Jm {v:V} (hv:v.leafy=true):v.fl=[v]:=by cases v<;>first|rfl|(simp[V.leafy]at hv)
theorem HT.fl_reify (h:List V) {t:TypeId} {v:V} (ht:HT P t v):(v.reify h).fl=v.fl.map (V.reify h):=by
 have leaf:∀{v:V},v.leafy=true→(v.reify h).fl=v.fl.map (V.reify h):=by
  intro v hv
  rw[Jm hv,Jm (LH h hv)];rfl
 have key:∀vs:List V,(∀v∈vs,(v.reify h).fl=v.fl.map (V.reify h))→BD (AB h vs)=(BD vs).map (V.reify h):=by
  intro vs
  induction vs with
  |nil=>intro _;rfl
  |cons v vs ih=>
   intro hh
   simp only[AB,BD,List.map_append]
   rw[hh v (by simp),ih fun v hv=>hh v (by simp[hv])]
 induction ht with
 |scal hk hv ho=>rename_i t v;exact leaf (by cases v<;>simp[V.scal]at hv<;>rfl)
 |undef=>exact leaf rfl
 |undefS=>exact leaf rfl
 |lst=>exact leaf rfl
 |win=>exact leaf rfl
 |struct hk hl _ ih=>
  rename_i t u fs vs _
  simp only[V.reify,V.fl]
  refine key vs fun v hv=> ?_
  obtain⟨i,hi,rfl⟩:=List.mem_iff_getElem.1 hv
  exact ih i (fs[i]'(by omega)) vs[i] (List.getElem?_eq_getElem _) (List.getElem?_eq_getElem _)
 |array hk hl _ ih=>
  simp only[V.reify,V.fl]
  exact key _ ih
theorem OI (h:List V) {e:TypeId}:∀{xs:List V},(∀x∈xs,HT P e x)→BD (AB h xs)=(BD xs).map (V.reify h)
 |[],_=>rfl
 |x::xs,hh=>by
  simp only[AB,BD,List.map_append]
  rw[HT.fl_reify h (hh x (by simp)),OI h fun y hy=>hh y (by simp[hy])]
theorem LR.leafy {v:V} {c:Value} (h:LR P g w v c):v.leafy=true:=by cases h<;>rfl
theorem LR.reify (L:Lay P) {h:List V} (B:BX P g w h) (W:WG g w) {v:V} {c:Value} (hv:LR P g w v c):LR P (g.bare w) w (v.reify h) c:=by
 have cl:∀{v c},LR P g w v c→v.clean=true→LR P (g.bare w) w v c:=fun hv hc=>LR.cleanTo (g:=g) (g2:=g.bare w) (fun b _=>Nat.le_refl _) hv hc
 have win:∀{id p off len e a n cap},LR P g w (.win id p off len e) (.slice a n cap)→(∀s,V.win id p off len e≠ .str s)→n≤cap→LR P (g.bare w) w ((V.win id p off len e).reify h) (.slice a n cap):=by
  intro id p off len e a n cap hw hs hcap
  simp only[V.reify]
  split
  ·rename_i xs hxs
   split
   ·rename_i hcx
    obtain⟨hsrc,_⟩:=Ew L B hxs (VR.lf rfl hw)
    simp only[Ai]at hxs
    obtain⟨ys,hys,rfl⟩:=Option.map_eq_some_iff.1 hxs
    obtain⟨v,hv,hi⟩:=Option.bind_eq_some_iff.1 hys
    cases hw with
    |win0 _ _ _ _ bt o n a cap h1 h2 h3 h4=>
     rw[List.take_zero]
     exact .emp e .lent a cap (by simp) (fun h=>⟨rfl,h4 h⟩)
    |win _ _ _ _ _ bt o n b cap h1 h2 h3 h4 h5 h6=>
     obtain⟨r1,r2,r3,_⟩:=B.arr L h1 h2 hv hi
     have ht':∀x∈(ys.drop off).take len,HT P e x:=fun x hx=>r2 x (List.mem_of_mem_drop (List.mem_of_mem_take hx))
     obtain⟨v0,hv0,_⟩:=Option.bind_eq_some_iff.1 hv
     obtain⟨cs0,e0,fz,c1,c2,c3,c4⟩:=B.cells id v0 b hv0 h4
     have hlen:((ys.drop off).take len).length=len:=by simp;omega
     by_cases h0:len=0
     ·subst h0
      rw[List.take_zero]
      exact .emp e .lent _ cap (by simp) (fun h=>by cases h)
     ·generalize hc:Value.slice (some ⟨b,o+off*P.cellsOf e,none⟩) len cap=c at hsrc
      generalize hxx:(ys.drop off).take len=xs at hsrc hcx ht' hlen⊢
      cases hsrc with
      |nil a cap=>simp at hlen;omega
      |str s=>cases hc
      |cells _ b' off' cap' cs q1 q2=>
       simp only[Value.slice.injEq,Option.some.injEq,Addr.mk.injEq]at hc
       obtain⟨⟨rfl,rfl,_⟩,_,rfl⟩:=hc
       have hb:=lt_of_block c1
       have hnl:(AP xs).length=len:=by rw[BQ];simp[hlen]
       have hpos:0<cs.length∨cs.length=0:=by omega
       have hlim:o+off*P.cellsOf e+cs.length≤Az w b:=by
        have hat:v0.at p=some v:=by
         have hv':=hv
         unfold rd at hv'
         rw[hv0]at hv';exact hv'
        have hset:G5 v ys=v:=by
         cases v with
         |row=>simp only[V.items,Option.some.injEq]at hi;subst hi;rfl
         |agg=>simp only[V.items,Option.some.injEq]at hi;subst hi;rfl
         |_=>rfl
        obtain⟨_,u2,_⟩:=B.arrUpd L h1 h2 hv0 hat hi (zs:=ys) r1 r2 (by rw[hset];exact V.upd_at_self p hat)
        have hcl:cs.length=len*P.cellsOf e:=by rw[q1.1,Aw L xs e fun x hx=>HT.size L (ht' x hx),hlen]
        have hbs:Az w b=cs0.size:=by simp[Az,c1]
        rw[hbs,hcl,Nat.add_assoc,←Nat.add_mul]
        exact Nat.le_trans (Nat.le_trans (Nat.add_le_add_left (Nat.mul_le_mul_right _ h3) o) u2) c2
       have hbm:some b∈g.β:=List.mem_of_getElem? h4
       have q1':=LRs.norm ht' q1
       have:=LR.lst (P:=P) (g:=g.bare w) (w:=w) e .lent (AP xs) b (o+off*P.cellsOf e) cap cs (by simp) (fun x hx=>by
        rw[BQ,List.mem_map]at hx
        obtain⟨y,hy,rfl⟩:=hx
        exact(ht' y hy).norm) (fun hh=>(hh rfl).elim) q1'.1 q2 (fun j x c a1 a2=>cl (q1'.2 j x c a1 a2) (EZ _ (D6 xs hcx) x (List.mem_of_getElem? a1))) hb
        (by simp only[G.lim,G.bare,if_pos hbm];omega) (by rw[hnl];exact hcap)
       rw[hnl]at this
       rw[hlen]
       exact this
   ·exact .undef _ rfl
  ·exact .undef _ rfl
 induction hv with
 |bool b=>exact .bool b
 |int k n=>exact .int k n
 |str s=>exact .str s
 |nilp=>exact .nilp
 |nilf=>exact .nilf
 |nili=>exact .nili
 |ifv te pe=>exact .ifv te pe
 |undef c hc=>exact .undef c hc
 |nil e=>exact .emp e .sh none 0 (by simp) (fun _=>⟨rfl,rfl⟩)
 |emp e f a cap hf hs=>cases f<;>first|exact(hf rfl).elim|exact .emp e _ a cap (by simp) hs|exact .emp e _ a cap (by simp) (fun h=>⟨rfl,(hs h).2⟩)
 |lst e f xs b off cap cs hf ht hcl hn hc hl hb hro hcap ih=>
  have share:AU xs=true→g.lim f b=g.ro b→LR P (g.bare w) w (.lst e .sh xs) (.slice (some ⟨b,off,none⟩) xs.length cap):=fun hcx hlim=>
   .lst e .sh xs b off cap cs (by simp) ht (fun _=>hcx) hn hc (fun j x c h1 h2=>cl (hl j x c h1 h2) (EZ xs hcx x (List.mem_of_getElem? h1))) hb (by rw[hlim]at hro;exact hro) hcap
  cases f with
  |nil=>exact(hf rfl).elim
  |own=>exact share (hcl (by simp)) rfl
  |sh=>exact share (hcl (by simp)) rfl
  |non=>exact share (hcl (by simp)) rfl
  |lent=>
   simp only[V.reify]
   have hlen:(AB h xs).length=xs.length:=by rw[Dl];simp
   have:=LR.lst (P:=P) (g:=g.bare w) (w:=w) e .lent (AB h xs) b off cap cs (by simp) (fun x hx=>by
    rw[Dl,List.mem_map]at hx
    obtain⟨y,hy,rfl⟩:=hx
    exact(ht y hy).reify h) (fun hh=>(hh rfl).elim) (by rw[OI h ht];simp[hn]) hc (fun j x c h1 h2=>by
    rw[OI h ht,List.getElem?_map,Option.map_eq_some_iff]at h1
    obtain⟨y,h1,rfl⟩:=h1
    exact ih j y c h1 h2) hb (Nat.le_trans hro (Zc g w b)) (by rw[hlen];exact hcap)
   rw[hlen]at this
   exact this
 |win id p off len e bt o n b cap h1 h2 h3 h4 h5 h6=>
  have hw:LR P g w (.win id p off len e) (.slice (some ⟨b,o+off*P.cellsOf e,none⟩) len cap):= .win id p off len e bt o n b cap h1 h2 h3 h4 h5 h6
  exact win hw (by simp) h5
 |win0 id p off e bt o n a cap h1 h2 h3 h4=>
  have hw:LR P g w (.win id p off 0 e) (.slice a 0 cap):= .win0 id p off e bt o n a cap h1 h2 h3 h4
  exact win hw (by simp) (Nat.zero_le _)
 |ref id p t bt o b h1 h2 h3=>exact .undef _ rfl
 |rop t x b off cs ht hn hc hl hb hro ih=>exact .undef _ rfl
 |clo f vs cs hn hl ih=>
  simp only[V.reify]
  refine .clo f _ cs (by rw[Dl];simp[hn]) fun j x c h1 h2=> ?_
  rw[Dl,List.getElem?_map,Option.map_eq_some_iff]at h1
  obtain⟨y,h1,rfl⟩:=h1
  exact ih j y c h1 h2
end
end AM
end
section
namespace AM
open Go
section
variable {P:Program} {A:Ann} {O:Orc} {g g':G} {w w':World}
theorem AR.reify (L:Lay P) {h:List V} (B:BX P g w h) (W:WG g w) {v:V} {c:Value} (hv:AR P g w v c):AR P (g.bare w) w (v.reify h) c:=by
 cases hv with
 |leaf hl hv=>exact .leaf (LH h hl) (hv.reify L B W)
 |agg ht hn hl=>
  rename_i t u fs cs
  simp only[V.reify]
  have e:=HT.fl_reify h ht
  simp only[V.reify,V.fl]at e
  have ht':=ht.reify h
  simp only[V.reify]at ht'
  refine .agg ht' (by rw[e];simp[hn]) fun j x c h1 h2=> ?_
  rw[e,List.getElem?_map,Option.map_eq_some_iff]at h1
  obtain⟨y,h1,rfl⟩:=h1
  exact(hl j y c h1 h2).reify L B W
theorem VR.reify (L:Lay P) {h:List V} (B:BX P g w h) (W:WG g w) {v:V} {c:Value} (hv:VR P g w v c):VR P (g.bare w) w (v.reify h) c:=by
 cases hv with
 |val hv=>exact .val (hv.reify L B W)
 |dead c=>exact .dead c
 |tup=>exact .dead _
theorem AR.cleanTo {g2:G} (hro:∀b,b<w.heap.size→g.ro b≤g2.ro b) {v:V} {c:Value} (h:AR P g w v c) (hc:v.clean=true):AR P g2 w v c:=by
 cases h with
 |leaf hl h=>exact .leaf hl (h.cleanTo hro hc)
 |agg ht hn hl=>exact .agg ht hn fun j x c h1 h2=>(hl j x c h1 h2).cleanTo hro (EZ _ (by simpa [V.clean]using hc) x (List.mem_of_getElem? h1))
theorem VR.cleanTo {g2:G} (hro:∀b,b<w.heap.size→g.ro b≤g2.ro b) {v:V} {c:Value} (h:VR P g w v c) (hc:v.clean=true):VR P g2 w v c:=by
 cases h with
 |val h=>exact .val (h.cleanTo hro hc)
 |dead c=>simp[V.clean]at hc
 |tup h1 h2 h3=>
  refine .tup h1 h2 fun j x c a b=>(h3 j x c a b).cleanTo hro ?_
  simp only[V.clean,ED,List.all_eq_true]at hc
  exact hc x (List.mem_of_getElem? a)
def G.back (g:G) (w:World) (g':G):G:=
 {β:=g.β,ty:=g.ty,H:=fun b=>if b<w.heap.size then g.H b else g'.H b,ro:=fun b=>if b<w.heap.size then g.ro b else g'.ro b,lro:=fun b=>if b<w.heap.size then g.lro b else g'.lro b}
theorem SV (E:Ext (g.bare w) w g' w'):Old g w (g.back w g') w':=by
 refine⟨E.os,E.tape,E.out,E.size,fun b hb=> ?_,⟨[],by simp[G.back]⟩,⟨[],by simp[G.back]⟩⟩
 obtain⟨a1,_⟩:=E.same b hb rfl (by simp[G.bare])
 exact⟨a1,by simp[G.back,hb]⟩
theorem AMp (S:WG g w) (E:Ext (g.bare w) w g' w') (W:WG g' w'):WG (g.back w g') w':=by
 refine⟨fun b hb=> ?_,fun i b hb=> ?_,fun b=> ?_⟩
 ·have hn:¬b<w.heap.size:=by have:=E.size;omega
  simp only[G.back,if_neg hn];exact W.fresh b hb
 ·obtain⟨h1,h2,h3,h4⟩:=S.box i b hb
  simp only[G.back,if_pos h1];exact⟨Nat.lt_of_lt_of_le h1 E.size,h2,h3,h4⟩
 ·simp only[G.back]
  split
  ·exact S.le b
  ·exact W.le b
theorem ADe (E:Ext (g.bare w) w g' w'):∀b,b<w'.heap.size→g'.ro b≤(g.back w g').ro b:=by
 intro b _
 simp only[G.back]
 split
 ·rename_i hb
  obtain⟨_,_,_,a4,_⟩:=E.same b hb rfl (by simp[G.bare])
  rw[a4];exact Nat.le_refl _
 ·exact Nat.le_refl _
theorem Zd (S:WG g w) (E:Ext (g.bare w) w g' w') {e:TypeId} {n:Nat} {c:Value} {l:Nat⊕(Nat×Nat)} (h:Own P g' w' e n c l):Own P (g.back w g') w' e n c l:=by
 rcases h with h|⟨b,off,len,cap,cs,e',fz,h1,h2,h3,h4,h5,h6,h7,h8⟩
 ·exact .inl h
 ·have hn:¬b<w.heap.size:=by
   intro hb
   obtain⟨_,a2,_⟩:=E.same b hb rfl (by simp[G.bare])
   rw[a2]at h2;cases h2
  refine .inr ⟨b,off,len,cap,cs,e',fz,h1,by simp[G.back,hn,h2],fun hb=>hn (S.notbox hb),h4,h5,h6,by simp only[G.back,if_neg hn];exact h7,by simp only[G.back,if_neg hn];exact h8⟩
theorem ADf {st:St} {tm:Array Value} (S:SR P A g w st tm) (E:Ext (g.bare w) w g' w') (W:WG g' w'):Ext g w (g.back w g') w'∧SR P A (g.back w g') w' st tm:=
 ⟨(SV E).ext,S.old (SV E) (AMp S.wg E W) rfl rfl⟩
end
end AM
end
end Go.Proofs.YtphoocnlpnnkdaaGreatDoor
