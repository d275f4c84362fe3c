/-
  Part of the proof of a statement about the given program: an abstract machine over its code, the simulation, its functions' equations, what they compute.
-/
import Derived.Laws.IdiomCopy
import Derived.Laws.World
import Derived.Test.YtphoocnlpnnkdaaGreatDoorMg16
set_option linter.unusedVariables false
set_option linter.unusedSimpArgs false
set_option linter.unusedSectionVars false
noncomputable section
namespace Go.Proofs.YtphoocnlpnnkdaaGreatDoor
section
namespace AM
open Go
section
variable {P:Program} {A:Ann} {g:G} {w:World}
theorem addr_add (b o n:Nat):(⟨b,o,none⟩:Addr).add n=⟨b,o+n,none⟩:=by unfold Addr.add;split<;>simp_all
theorem cell_of_block {b j:Nat} {cs:Array Value} {e:TypeId} {fz:Nat×Nat} (h:w.heap[b]?=some (.cells cs e fz)):w.cell? ⟨b,j,none⟩=cs[j]?:=by simp[World.cell?,h]
theorem Fj (b:Nat) (e:TypeId) (fz:Nat×Nat):∀(vs:List Value) (o:Nat) (w:World) (cs:Array Value),w.heap[b]?=some (.cells cs e fz)→o+vs.length≤cs.size→
 ∃cs',(w.setCells b o vs).heap[b]?=some (.cells cs' e fz)∧cs'.size=cs.size∧(∀k,cs'[k]?=if o≤k∧k<o+vs.length then vs[k-o]? else cs[k]?)∧
  (∀b',b'≠b→(w.setCells b o vs).heap[b']?=w.heap[b']?)∧(w.setCells b o vs).heap.size=w.heap.size∧(w.setCells b o vs).os=w.os∧(w.setCells b o vs).tape=w.tape∧(w.setCells b o vs).output=w.output
 |[],o,w,cs,h,_=>⟨cs,h,rfl,fun k=>by rw[if_neg (by simp only[List.length_nil];omega)],fun _ _=>rfl,rfl,rfl,rfl,rfl⟩
 |v::vs,o,w,cs,h,hl=>by
  have hb:b<w.heap.size:=by
   rcases Nat.lt_or_ge b w.heap.size with h'|h'
   ·exact h'
   ·rw[Array.getElem?_eq_none h']at h;cases h
  have h1:(w.setCell ⟨b,o,none⟩ v).heap[b]?=some (.cells (cs.setIfInBounds o v) e fz):=by
   simp[World.setCell,Array.getElem?_modify,h]
  simp only[List.length_cons]at hl
  obtain⟨cs',a1,a2,a3,a4,a5,a6,a7,a8⟩:=Fj b e fz vs (o+1) (w.setCell ⟨b,o,none⟩ v) (cs.setIfInBounds o v) h1 (by simp;omega)
  refine⟨cs',a1,by rw[a2];simp,fun k=> ?_,fun b' hb'=> ?_,by rw[show w.setCells b o (v::vs)=(w.setCell ⟨b,o,none⟩ v).setCells b (o+1) vs from rfl,a5];simp[World.setCell],a6,a7,a8⟩
  ·rw[a3]
   simp only[List.length_cons]
   by_cases hk:o+1≤k∧k<o+1+vs.length
   ·rw[if_pos hk,if_pos (by omega),show k-o=(k-(o+1))+1 by omega,List.getElem?_cons_succ]
   ·rw[if_neg hk]
    by_cases hko:k=o
    ·subst hko
     rw[if_pos (by omega),Nat.sub_self,List.getElem?_cons_zero,Array.getElem?_setIfInBounds,if_pos rfl,if_pos (by omega)]
    ·rw[if_neg (by omega),Array.getElem?_setIfInBounds,if_neg (fun h=>hko h.symm)]
  ·rw[show w.setCells b o (v::vs)=(w.setCell ⟨b,o,none⟩ v).setCells b (o+1) vs from rfl,a4 b' hb']
   simp only[World.setCell,Array.getElem?_modify]
   rw[if_neg (fun h=>hb' h.symm)]
theorem AN9 (L:Lay P) (p:List Nat):∀{t t':TypeId} {v x:V} {o:Nat},HT P t v→walk P t p=some (o,t')→v.at p=some x→o+P.cellsOf t'≤P.cellsOf t:=by
 induction p with
 |nil=>
  intro t t' v x o h hw hx
  simp only[walk,Option.some.injEq,Prod.mk.injEq]at hw
  obtain⟨rfl,rfl⟩:=hw;omega
 |cons i p ih=>
  intro t t' v x o h hw hx
  simp only[walk]at hw
  obtain⟨⟨o1,t1⟩,h1,hw⟩:=Option.bind_eq_some_iff.1 hw
  obtain⟨⟨o2,t2⟩,h2,he⟩:=Option.map_eq_some_iff.1 hw
  obtain⟨rfl,rfl⟩:=Prod.mk.inj he
  cases v with
  |agg u vs=>
   simp only[V.at]at hx
   obtain⟨y,hy,hx⟩:=Option.bind_eq_some_iff.1 hx
   obtain⟨hy',ho⟩:=h.step L h1 hy
   have h3:=ih hy' h2 hx
   have h4:=h.step_lt L h1 hy
   rw[HT.size L hy']at h4
   simp only at h3 h4⊢;omega
  |row e vs=>cases h;rename_i h3 _;simp[V.scal]at h3
  |_=>simp[V.at]at hx
theorem BT.has.at (L:Lay P) {bt:BT} {v x:V} {p:List Nat} {o:Nat} {t:TypeId} (h:bt.has P v) (hw:bt.var? P p=some (o,t)) (hx:v.at p=some x):
 HT P t x∧o+P.cellsOf t≤bt.size P∧∀j,j<P.cellsOf t→v.fl[o+j]?=x.fl[j]?:=by
 cases bt with
 |var t0=>
  obtain⟨a,b⟩:=HT.at L p h hw hx
  exact⟨a,AN9 L p h hw hx,b⟩
 |row e n=>
  obtain⟨xs,rfl,rfl,hxs⟩:=h
  cases p with
  |nil=>simp[BT.var?]at hw
  |cons i p=>
   simp only[BT.var?]at hw
   split at hw
   ·rename_i hi
    obtain⟨⟨o2,t2⟩,h2,he⟩:=Option.map_eq_some_iff.1 hw
    obtain⟨rfl,rfl⟩:=Prod.mk.inj he
    simp only[V.at]at hx
    obtain⟨y,hy,hx⟩:=Option.bind_eq_some_iff.1 hx
    have hym:=hxs y (List.mem_of_getElem? hy)
    obtain⟨a,b⟩:=HT.at L p hym h2 hx
    have hin:=AN9 L p hym h2 hx
    have hsz:=HT.size L hym
    have ho:=C9 L xs e i (by omega) fun v hv=>HT.size L (hxs v hv)
    refine⟨a,?_,fun j hj=> ?_⟩
    ·simp only[BT.size]
     have:(i+1)*P.cellsOf e≤xs.length*P.cellsOf e:=Nat.mul_le_mul_right _ hi
     rw[Nat.succ_mul]at this
     omega
    ·simp only[V.fl]
     rw[←b j hj]
     rw[←ho,Nat.add_assoc]
     exact Jg xs i y hy (o2+j) (by have hj2:j<P.cellsOf t2:=hj;omega)
   ·cases hw
theorem BT.has.upd (L:Lay P) {bt:BT} {v x v':V} {p:List Nat} {o:Nat} {t:TypeId} (h:bt.has P v) (hw:bt.var? P p=some (o,t)) (hx:HT P t x) (hu:v.upd p x=some v'):
 bt.has P v'∧o+P.cellsOf t≤bt.size P∧∀k,v'.fl[k]?=if o≤k∧k<o+P.cellsOf t then x.fl[k-o]? else v.fl[k]?:=by
 cases bt with
 |var t0=>exact HT.upd L p h hw hx hu
 |row e n=>
  obtain⟨xs,rfl,rfl,hxs⟩:=h
  cases p with
  |nil=>simp[BT.var?]at hw
  |cons i p=>
   simp only[BT.var?]at hw
   split at hw
   ·rename_i hi
    obtain⟨⟨o2,t2⟩,h2,he⟩:=Option.map_eq_some_iff.1 hw
    obtain⟨rfl,rfl⟩:=Prod.mk.inj he
    simp only[V.upd]at hu
    obtain⟨y,hy,hu⟩:=Option.bind_eq_some_iff.1 hu
    obtain⟨z,hz,rfl⟩:=Option.map_eq_some_iff.1 hu
    have hym:=hxs y (List.mem_of_getElem? hy)
    obtain⟨r1,r2,r3⟩:=HT.upd L p hym h2 hx hz
    have hsy:=HT.size L hym
    have hsz:z.fl.length=y.fl.length:=by rw[HT.size L r1,hsy]
    have ho:=C9 L xs e i (by omega) fun v hv=>HT.size L (hxs v hv)
    refine⟨⟨xs.set i z,rfl,by simp,fun v hv=> ?_⟩,?_,fun k=> ?_⟩
    ·rcases List.mem_or_eq_of_mem_set hv with h'|rfl
     ·exact hxs v h'
     ·exact r1
    ·simp only[BT.size]
     have:(i+1)*P.cellsOf e≤xs.length*P.cellsOf e:=Nat.mul_le_mul_right _ hi
     rw[Nat.succ_mul]at this
     omega
    ·simp only[V.fl]
     rw[Mc xs i y z hy hsz,ho]
     by_cases hk:i*P.cellsOf e≤k∧k<i*P.cellsOf e+y.fl.length
     ·rw[if_pos hk,r3]
      by_cases hk2:o2≤k-i*P.cellsOf e∧k-i*P.cellsOf e<o2+P.cellsOf t2
      ·rw[if_pos hk2,if_pos (by omega)];congr 1;omega
      ·rw[if_neg hk2,if_neg (by omega)]
       have:=Jg xs i y hy (k-i*P.cellsOf e) (by omega)
       rw[←this,ho];congr 1;omega
     ·rw[if_neg hk,if_neg (by omega)]
   ·cases hw
theorem HT.K_ne {t:TypeId} {v:V} (h:HT P t v):K P t≠ .bad:=by
 cases h with
 |scal hk _ _=>rw[hk];simp
 |undef hk=>rw[hk];simp
 |undefS hk=>rw[hk];simp
 |lst hk=>rw[hk];simp
 |win hk=>rw[hk];simp
 |struct hk _ _=>rw[hk];simp
 |array hk _ _=>rw[hk];simp
theorem Jh (L:Lay P) {t:TypeId} {v:V} {b o:Nat} {cs:List Value} (ht:HT P t v) (h:LRs P g w v.fl cs) (hc:∀(j:Nat) (c:Value),cs[j]?=some c→w.cell? ⟨b,o+j,none⟩=some c):
 ∃c,(loadVar t ⟨b,o,none⟩).run P w= .ok c w∧AR P g w v c:=by
 obtain⟨c,h1,h2,h3,h4⟩:=AR.of_cells L ht h
 have hlen:cs.length=P.cellsOf t:=by rw[h.1,HT.size L ht]
 have agg:∀u fs,v= .agg u fs→(isAgg t).run P w= .ok true w→∃c,(loadVar t ⟨b,o,none⟩).run P w= .ok c w∧AR P g w v c:=by
  intro u fs hv hag
  refine⟨c,?_,h1⟩
  rw[h2 u fs hv]
  have hl:=run_loadCells_list (P:=P) (w:=w) ⟨b,o,none⟩ cs (fun j v hj=>by rw[addr_add];exact hc j v hj)
  simp only[loadVar,Sem.run_bind,hag,Result.andThen_ok,if_true]
  rw[run_sizeOf (HT.K_ne ht)]
  simp only[Result.andThen_ok,Sem.run_bind]
  rw[←hlen,hl]
  rfl
 have leaf:v.leafy=true→(isAgg t).run P w= .ok false w→∃c,(loadVar t ⟨b,o,none⟩).run P w= .ok c w∧AR P g w v c:=by
  intro hv hag
  refine⟨c,?_,h1⟩
  have h3':=h3 hv
  have:=hc 0 c (by rw[h3'];rfl)
  rw[Nat.add_zero]at this
  simp only[loadVar,Sem.run_bind,hag,Result.andThen_ok]
  simp[this]
 cases ht with
 |scal hk hv ho=>exact leaf (by cases v<;>simp[V.scal]at hv<;>rfl) (XQ hk)
 |undef hk=>exact leaf rfl (XQ hk)
 |undefS hk=>exact leaf rfl (D5 hk)
 |lst hk=>exact leaf rfl (D5 hk)
 |win hk=>exact leaf rfl (D5 hk)
 |struct hk hl H=>exact agg _ _ rfl (MZ hk)
 |array hk hl H=>exact agg _ _ rfl (Oq hk)
end
end AM
end
section
namespace AM
open Go
section
variable {P:Program} {A:Ann} {g:G} {w:World}
theorem ZR {t:TypeId} (h:P.cellsOf t≠0):(sizeOf t).run P w= .ok (P.cellsOf t) w:=by
 cases hi:P.info? t with
 |none=>simp[Program.cellsOf,hi]at h
 |some i=>simp[sizeOf,typeInfo,hi,Program.cellsOf]
theorem BT.var?_snoc {bt:BT} {p:List Nat} {i o o':Nat} {t t':TypeId} (h:bt.var? P p=some (o,t)) (hs:SC P t i=some (o',t')):bt.var? P (p++[i])=some (o+o',t'):=by
 cases bt with
 |var t0=>
  simp only[BT.var?]at h⊢
  rw[Oo,h];simp[walk,hs]
 |row e n=>
  cases p with
  |nil=>simp[BT.var?]at h
  |cons j p=>
   simp only[BT.var?,List.cons_append]at h⊢
   split at h
   ·rename_i hj
    obtain⟨⟨o2,t2⟩,h2,he⟩:=Option.map_eq_some_iff.1 h
    obtain⟨rfl,rfl⟩:=Prod.mk.inj he
    rw[if_pos hj,Oo,h2];simp[walk,hs,Nat.add_assoc]
   ·cases h
theorem BT.var?_arr {bt:BT} {p:List Nat} {i o n:Nat} {e:TypeId} (h:bt.arr? P p=some (o,n,e)) (hi:i<n):bt.var? P (p++[i])=some (o+i*P.cellsOf e,e):=by
 have key:∀s:Nat×TypeId,bt.var? P p=some s→(∃u,K P s.2= .array u n e)→s.1=o→bt.var? P (p++[i])=some (o+i*P.cellsOf e,e):=by
  rintro ⟨o1,t1⟩ h1 ⟨u,hu⟩ rfl
  exact BT.var?_snoc h1 (by simp only[SC,hu,if_pos hi])
 cases bt with
 |var t0=>
  simp only[BT.arr?]at h
  obtain⟨⟨o1,t1⟩,h1,h2⟩:=Option.bind_eq_some_iff.1 h
  simp only at h2
  split at h2
  ·rename_i u n' e' hk
   simp only[Option.some.injEq,Prod.mk.injEq]at h2
   obtain⟨rfl,rfl,rfl⟩:=h2
   exact key _ h1 ⟨u,hk⟩ rfl
  ·cases h2
 |row e0 n0=>
  cases p with
  |nil=>
   simp only[BT.arr?,Option.some.injEq,Prod.mk.injEq]at h
   obtain⟨rfl,rfl,rfl⟩:=h
   simp[BT.var?,hi,walk]
  |cons j p=>
   simp only[BT.arr?]at h
   obtain⟨⟨o1,t1⟩,h1,h2⟩:=Option.bind_eq_some_iff.1 h
   simp only at h2
   split at h2
   ·rename_i u n' e' hk
    simp only[Option.some.injEq,Prod.mk.injEq]at h2
    obtain⟨rfl,rfl,rfl⟩:=h2
    exact key _ h1 ⟨u,hk⟩ rfl
   ·cases h2
theorem ADX {t t' u:TypeId} {xs:List V} {y:V} {i o' b off:Nat} (L:Lay P) (h:LR P g w (.rop t (.agg u xs)) (.pointer (some ⟨b,off,none⟩))) (hs:SC P t i=some (o',t')) (hy:xs[i]?=some y):
 LR P g w (.rop t' y) (.pointer (some ⟨b,off+o',none⟩)):=by
 cases h with
 |rop _ _ _ _ cs ht hn hc hl hb hro=>
  obtain⟨hty,ho⟩:=ht.step L hs hy
  have hle:=ht.step_lt L hs hy
  have htot:=HT.size L ht
  have hn':cs.length=P.cellsOf t:=by rw[hn,htot]
  refine .rop t' y b (off+o') ((cs.drop o').take y.fl.length) hty (by simp;omega) (fun j c hj=> ?_) (fun j x c hx hj=> ?_) hb (by simp;omega)
  ·rw[List.getElem?_take]at hj
   split at hj
   ·rw[List.getElem?_drop]at hj
    rw[Nat.add_assoc];exact hc _ _ hj
   ·cases hj
  ·rw[List.getElem?_take]at hj
   split at hj
   ·rename_i hjl
    rw[List.getElem?_drop]at hj
    refine hl (o'+j) x c ?_ hj
    simp only[V.fl];rw[ho];rw[Jg xs i y hy j hjl];exact hx
   ·cases hj
theorem Lm (L:Lay P) {s:TypeId} {f:Nat} {a v:V} {ca:Value} (h:Af P s f a=some v) (ha:VR P g w a ca):
 ∃c,(Instr.fieldAt s ca f).run P w= .ok c w∧VR P g w v c∧v.noOwn=true:=by
 unfold Af at h
 split at h
 ·rename_i u fs hk
  obtain⟨F,hF,rfl,rfl⟩:=FN hk
  split at h
  ·rename_i ft hft
   split at h
   ·cases h
   rename_i hz
   rw[List.getElem?_map,Option.map_eq_some_iff]at hft
   obtain⟨fd,hfd,rfl⟩:=hft
   have hFd:F[f]?=some fd:=by rw[←Array.getElem?_toList];exact hfd
   have hof:=L.offs s F hF (Fh (by rw[hk];simp)) f fd hFd
   have hstp:SC P s f=some (fd.offset,fd.type):=by
    simp only[SC,hk]
    rw[List.getElem?_map,hfd,hof,←List.map_take,List.map_map];rfl
   have hrun:∀b o,(Instr.fieldAt s (.pointer (some ⟨b,o,none⟩)) f).run P w= .ok (.pointer (some ⟨b,o+fd.offset,none⟩)) w:=by
    intro b o
    simp only[Instr.fieldAt,Sem.run_bind,Ad hF,Result.andThen_ok,hFd,Instr.sureAddr,Sem.run_pure,fieldPlace,ZR hz,if_neg hz,addr_add]
   split at h
   ·rename_i id p t
    split at h
    ·rename_i ht;subst ht
     obtain rfl:=Option.some.inj h
     cases ha.leaf' rfl (by simp)with
     |ref _ _ _ bt o b h1 h2 h3=>exact⟨_,hrun b o,.lf rfl (.ref _ _ _ bt _ b h1 (BT.var?_snoc h2 hstp) h3),rfl⟩
    ·cases h
   ·rename_i t x
    split at h
    ·rename_i ht;subst ht
     split at h
     ·rename_i u' xs
      obtain⟨y,hy,rfl⟩:=Option.map_eq_some_iff.1 h
      have hl:=ha.leaf' rfl (by simp)
      cases hl with
      |rop _ _ b o cs h1 h2 h3 h4 h5 h6=>
       exact⟨_,hrun b o,.lf rfl (ADX L (.rop _ _ b o cs h1 h2 h3 h4 h5 h6) hstp hy),rfl⟩
     ·cases h
    ·cases h
   ·cases h
  ·cases h
 ·cases h
theorem Eu {i:Int} {n:Nat} (h:inside i n=true):0≤i∧i<n∧i.toNat<n∧(i.toNat:Int)=i:=by
 simp only[inside,Bool.and_eq_true,decide_eq_true_eq]at h
 omega
theorem AEb {xs:List V} {e:TypeId} (L:Lay P) (ht:∀x∈xs,HT P e x) {i:Nat} {y:V} (hy:xs[i]?=some y):
 i*P.cellsOf e+y.fl.length≤(BD xs).length∧∀j,j<y.fl.length→(BD xs)[i*P.cellsOf e+j]?=y.fl[j]?:=by
 have hil:i<xs.length:=by
  rcases Nat.lt_or_ge i xs.length with h'|h'
  ·exact h'
  ·rw[List.getElem?_eq_none h']at hy;cases hy
 have ho:=C9 L xs e i (by omega) fun v hv=>HT.size L (ht v hv)
 have hsy:=HT.size L (ht y (List.mem_of_getElem? hy))
 refine⟨?_,fun j hj=> ?_⟩
 ·rw[Aw L xs e fun x hx=>HT.size L (ht x hx),hsy]
  have:(i+1)*P.cellsOf e≤xs.length*P.cellsOf e:=Nat.mul_le_mul_right _ hil
  rw[Nat.succ_mul]at this;exact this
 ·rw[←ho];exact Jg xs i y hy j hj
theorem AMf (L:Lay P) (W:WG g w) {e:TypeId} {f:Fl} {xs:List V} {a:Option Addr} {len cap i:Nat} {y:V} (h:LR P g w (.lst e f xs) (.slice a len cap)) (hy:xs[i]?=some y):
 ∃b off,a=some ⟨b,off,none⟩∧LR P g w (.rop e y) (.pointer (some ⟨b,off+i*P.cellsOf e,none⟩))∧HT P e y:=by
 cases h with
 |nil=>simp at hy
 |emp=>simp at hy
 |lst _ _ _ b off _ cs hf ht hcl hn hc hl hb hro hcap=>
  obtain⟨c1,c2⟩:=AEb L ht hy
  have hty:=ht y (List.mem_of_getElem? hy)
  refine⟨b,off,rfl,.rop e y b _ ((cs.drop (i*P.cellsOf e)).take y.fl.length) hty (by simp;omega) (fun j c hj=> ?_) (fun j x c hx hj=> ?_) hb ?_,hty⟩
  ·rw[List.getElem?_take]at hj
   split at hj
   ·rw[List.getElem?_drop]at hj
    rw[Nat.add_assoc];exact hc _ _ hj
   ·cases hj
  ·rw[List.getElem?_take]at hj
   split at hj
   ·rename_i hjl
    rw[List.getElem?_drop]at hj
    refine hl _ x c ?_ hj
    rw[c2 j hjl];exact hx
   ·cases hj
  ·have:=G.lim_le W f b
   simp;omega
theorem AA3 (L:Lay P) (W:WG g w) {t:TypeId} {x i v:V} {cx ci:Value} (h:AY P t x i=some v) (hx:VR P g w x cx) (hi:VR P g w i ci):
 ∃c,(Instr.indexAt t cx ci).run P w= .ok c w∧VR P g w v c∧v.noOwn=true:=by
 unfold AY at h
 split at h
 ·rename_i k n
  obtain rfl:=hi.int'
  split at h
  ·rename_i e hk
   have hu:=Df hk
   split at h
   ·rename_i e' f xs
    split at h
    ·rename_i hc
     simp only[Bool.and_eq_true,decide_eq_true_eq]at hc
     obtain⟨rfl,hin⟩:=hc
     obtain⟨i1,i2,i3,i4⟩:=Eu hin
     obtain⟨y,hy,rfl⟩:=Option.map_eq_some_iff.1 h
     have hl:=hx.leaf' rfl (by simp)
     obtain⟨a,len,cap,rfl,hlen⟩:∃a len cap,cx= .slice a len cap∧len=xs.length:=by
      cases hl with
      |nil=>exact⟨_,_,_,rfl,rfl⟩
      |emp=>exact⟨_,_,_,rfl,rfl⟩
      |lst=>exact⟨_,_,_,rfl,rfl⟩
     subst hlen
     obtain⟨b,off,rfl,hr,hty⟩:=AMf L W hl hy
     refine⟨_,?_,.lf rfl hr,rfl⟩
     simp only[Instr.indexAt,asIntOf,Sem.run_bind,Sem.run_pure,Result.andThen_ok,Ad hu,Sem.run_ite]
     rw[if_pos ⟨i1,i2⟩]
     simp only[Sem.run_bind,run_sizeOf (HT.K_ne hty),Result.andThen_ok,Sem.run_pure,addr_add]
    ·cases h
   ·rename_i id p off len e'
    split at h
    ·rename_i hc
     simp only[Bool.and_eq_true,decide_eq_true_eq]at hc
     obtain⟨rfl,hin⟩:=hc
     obtain⟨i1,i2,i3,i4⟩:=Eu hin
     obtain rfl:=Option.some.inj h
     have hl:=hx.leaf' rfl (by simp)
     cases hl with
     |win _ _ _ _ _ bt o m b cap h1 h2 h3 h4 h5 h6=>
      have hv:=BT.var?_arr h2 (show off+n.toNat<m by omega)
      refine⟨.pointer (some ⟨b,o+(off+n.toNat)*P.cellsOf e',none⟩),?_,.lf rfl (.ref _ _ _ bt _ b h1 hv h4),rfl⟩
      simp only[Instr.indexAt,asIntOf,Sem.run_bind,Sem.run_pure,Result.andThen_ok,Ad hu,Sem.run_ite]
      rw[if_pos ⟨i1,i2⟩]
      simp only[Sem.run_bind,Result.andThen_ok,run_sizeOf (L.slice _ _ hk).2,Sem.run_pure,addr_add]
      congr 4
      rw[Nat.add_mul];omega
     |win0=>omega
    ·cases h
   ·cases h
  ·rename_i u m e hk
   obtain⟨hu,rfl⟩:=FM hk
   split at h
   ·rename_i id p t'
    split at h
    ·rename_i hc
     simp only[Bool.and_eq_true,decide_eq_true_eq]at hc
     obtain⟨rfl,hin⟩:=hc
     obtain⟨i1,i2,i3,i4⟩:=Eu hin
     obtain rfl:=Option.some.inj h
     have hl:=hx.leaf' rfl (by simp)
     cases hl with
     |ref _ _ _ bt o b h1 h2 h3=>
      refine⟨.pointer (some ⟨b,o+n.toNat*P.cellsOf e,none⟩),?_,.lf rfl (.ref _ _ _ bt _ b h1 (BT.var?_snoc h2 (by simp only[SC,hk,if_pos i3])) h3),rfl⟩
      simp only[Instr.indexAt,asIntOf,Sem.run_bind,Sem.run_pure,Result.andThen_ok,Ad hu,Sem.run_ite,Instr.sureAddr]
      rw[if_pos ⟨i1,i2⟩]
      simp only[Sem.run_bind,run_sizeOf (L.array _ _ _ _ hk).2,Result.andThen_ok,Sem.run_pure,addr_add]
    ·cases h
   ·rename_i t' y
    split at h
    ·rename_i hc
     simp only[Bool.and_eq_true,decide_eq_true_eq]at hc
     obtain⟨rfl,hin⟩:=hc
     obtain⟨i1,i2,i3,i4⟩:=Eu hin
     split at h
     ·rename_i u' xs
      split at h
      ·rename_i hu'
       subst hu'
       obtain⟨z,hz,rfl⟩:=Option.map_eq_some_iff.1 h
       have hl:=hx.leaf' rfl (by simp)
       cases hl with
       |rop _ _ b o cs h1 h2 h3 h4 h5 h6=>
        refine⟨_,?_,.lf rfl (ADX L (.rop _ _ b o cs h1 h2 h3 h4 h5 h6) (i:=n.toNat) (by simp only[SC,hk,if_pos i3];rfl) hz),rfl⟩
        simp only[Instr.indexAt,asIntOf,Sem.run_bind,Sem.run_pure,Result.andThen_ok,Ad hu,Sem.run_ite,Instr.sureAddr]
        rw[if_pos ⟨i1,i2⟩]
        simp only[Sem.run_bind,run_sizeOf (L.array _ _ _ _ hk).2,Result.andThen_ok,Sem.run_pure,addr_add]
      ·cases h
     ·cases h
    ·cases h
   ·cases h
  ·cases h
 ·cases h
end
end AM
end
section
namespace AM
open Go
section
variable {P:Program} {A:Ann} {g:G} {w:World}
theorem HT.noOwn (d:Nat):∀{t:TypeId} {v:V},CS P d t=false→HT P t v→v.noOwn=true:=by
 induction d with
 |zero=>intro t v h;simp[CS]at h
 |succ d ih=>
  intro t v h ht
  cases ht with
  |scal hk hv ho=>cases v<;>simp[V.scal]at hv<;>rfl
  |undef=>rfl
  |undefS=>rfl
  |lst hk=>simp[CS,hk]at h
  |win hk=>rfl
  |struct hk hl H=>
   rename_i u fs vs
   simp only[CS,hk,List.any_eq_false]at h
   simp only[V.noOwn,Dk,List.all_eq_true]
   intro v hv
   obtain⟨i,hi,rfl⟩:=List.mem_iff_getElem.1 hv
   have hif:i<fs.length:=by omega
   exact ih (by simpa using h fs[i] (List.getElem_mem hif)) (H i fs[i] vs[i] (List.getElem?_eq_getElem hif) (List.getElem?_eq_getElem hi))
  |array hk hl H=>
   simp only[CS,hk]at h
   simp only[V.noOwn,Dk,List.all_eq_true]
   exact fun v hv=>ih h (H v hv)
theorem BX.read (L:Lay P) {h:List V} (B:BX P g w h) {id:Nat} {p:List Nat} {t:TypeId} {v:V} {bt:BT} {o b:Nat} (h1:g.ty[id]?=some bt) (h2:bt.var? P p=some (o,t)) (h3:g.β[id]?=some (some b))
 (hr:rd h id p=some v):HT P t v∧∃cs:List Value,LRs P g w v.fl cs∧∀(j:Nat) (c:Value),cs[j]?=some c→w.cell? ⟨b,o+j,none⟩=some c:=by
 unfold rd at hr
 obtain⟨v0,hv0,hat⟩:=Option.bind_eq_some_iff.1 hr
 have hb:=B.has id v0 bt hv0 h1
 obtain⟨ht,hle,hfl⟩:=hb.at L h2 hat
 obtain⟨cs,e,fz,c1,c2,c3,c4⟩:=B.cells id v0 b hv0 h3
 have hsz:=hb.size L
 have hvs:=HT.size L ht
 refine⟨ht,(cs.toList.drop o).take v.fl.length,⟨by simp;omega,fun j x c hx hj=> ?_⟩,fun j c hj=> ?_⟩
 ·rw[List.getElem?_take]at hj
  split at hj
  ·rename_i hjl
   rw[List.getElem?_drop,Array.getElem?_toList]at hj
   obtain⟨c',hc',hl,_⟩:=c4 (o+j) x (by rw[hfl j (by omega)];exact hx)
   rw[hj]at hc';obtain rfl:=Option.some.inj hc'
   exact hl
  ·cases hj
 ·rw[List.getElem?_take]at hj
  split at hj
  ·rw[List.getElem?_drop,Array.getElem?_toList]at hj
   rw[cell_of_block c1];exact hj
  ·cases hj
theorem ADY (L:Lay P) (W:WG g w) {h:List V} (B:BX P g w h) {t:TypeId} {a v:V} {ca:Value} (hd:AX h t a=some v) (ha:VR P g w a ca):
 HT P t v∧∃c,(Instr.loadAt t ca).run P w= .ok c w∧AR P g w v c:=by
 unfold AX at hd
 split at hd
 ·rename_i id p t'
  split at hd
  ·rename_i ht;subst ht
   cases ha.leaf' rfl (by simp)with
   |ref _ _ _ bt o b h1 h2 h3=>
    obtain⟨r1,cs,r2,r3⟩:=B.read L h1 h2 h3 hd
    obtain⟨c,hc,har⟩:=Jh L r1 r2 r3
    exact⟨r1,c,by simp[Instr.loadAt,Instr.sureAddr,hc],har⟩
  ·cases hd
 ·rename_i t' x
  split at hd
  ·rename_i ht;subst ht
   obtain rfl:=Option.some.inj hd
   cases ha.leaf' rfl (by simp)with
   |rop _ _ b o cs h1 h2 h3 h4 h5 h6=>
    obtain⟨c,hc,har⟩:=Jh L h1 ⟨h2,h4⟩ h3
    exact⟨h1,c,by simp[Instr.loadAt,Instr.sureAddr,hc],har⟩
  ·cases hd
 ·cases hd
theorem ZT (L:Lay P) (W:WG g w) {h:List V} (B:BX P g w h) {t:TypeId} {a v:V} {ca:Value} (hd:(if CS P depth t then CU h t a else AX h t a)=some v) (ha:VR P g w a ca):
 ∃c,(Instr.loadAt t ca).run P w= .ok c w∧VR P g w v c∧v.noOwn=true:=by
 split at hd
 ·unfold CU at hd
  obtain⟨v0,h0,rfl⟩:=Option.map_eq_some_iff.1 hd
  obtain⟨ht,c,hc,har⟩:=ADY L W B h0 ha
  exact⟨c,hc,.val har.weak,har.noOwn_weak⟩
 ·rename_i hs
  obtain⟨ht,c,hc,har⟩:=ADY L W B hd ha
  exact⟨c,hc,.val har,ht.noOwn depth (by simpa using hs)⟩
theorem Ig (L:Lay P) {t t' u:TypeId} {vs:List V} {cs:List Value} {i o:Nat} {y:V} (ht:HT P t (.agg u vs)) (h:LRs P g w (BD vs) cs) (hs:SC P t i=some (o,t')) (hy:vs[i]?=some y):
 HT P t' y∧∃c,(part t' cs.toArray o).run P w= .ok c w∧AR P g w y c:=by
 obtain⟨hty,ho⟩:=ht.step L hs hy
 have hle:=ht.step_lt L hs hy
 have hsy:=HT.size L hty
 have hlen:cs.length=P.cellsOf t:=by rw[h.1];exact HT.size L ht
 have hsub:LRs P g w y.fl ((cs.drop o).take y.fl.length):=by
  refine⟨by simp;omega,fun j x c hx hj=> ?_⟩
  rw[List.getElem?_take]at hj
  split at hj
  ·rename_i hjl
   rw[List.getElem?_drop]at hj
   refine h.2 (o+j) x c ?_ hj
   rw[ho,Jg vs i y hy j hjl];exact hx
  ·cases hj
 obtain⟨c,a1,a2,a3,a4⟩:=AR.of_cells L hty hsub
 refine⟨hty,c,?_,a1⟩
 have agg:∀u fs,y= .agg u fs→(isAgg t').run P w= .ok true w→(part t' cs.toArray o).run P w= .ok c w:=by
  intro u fs hv hag
  rw[a2 u fs hv]
  simp only[part,Sem.run_bind,hag,Result.andThen_ok,if_true,run_sizeOf (HT.K_ne hty),Sem.run_pure]
  congr 2
  apply Array.ext'
  rw[Array.toList_extract]
  simp only[List.extract,List.toList_toArray]
  rw[hsy];congr 1;omega
 have leaf:y.leafy=true→(isAgg t').run P w= .ok false w→(part t' cs.toArray o).run P w= .ok c w:=by
  intro hv hag
  have e:=a3 hv
  have e1:cs[o]?=some c:=by
   have:((cs.drop o).take y.fl.length)[0]?=some c:=by rw[e];rfl
   rw[List.getElem?_take]at this
   split at this
   ·rw[List.getElem?_drop,Nat.add_zero]at this;exact this
   ·cases this
  simp only[part,Sem.run_bind,hag,Result.andThen_ok]
  simp[e1]
 cases hty with
 |scal hk hv ho=>exact leaf (by cases y<;>simp[V.scal]at hv<;>rfl) (XQ hk)
 |undef hk=>exact leaf rfl (XQ hk)
 |undefS hk=>exact leaf rfl (D5 hk)
 |lst hk=>exact leaf rfl (D5 hk)
 |win hk=>exact leaf rfl (D5 hk)
 |struct hk hl H=>exact agg _ _ rfl (MZ hk)
 |array hk hl H=>exact agg _ _ rfl (Oq hk)
theorem ZU (t:TypeId):P.underlying t=(P.info? (P.underlyingId t)).map (·.desc):=by
 unfold Program.underlying Program.underlyingId
 cases hi:P.info? t with
 |none=>simp[hi]
 |some i=>
  cases hd:i.desc<;>cases i<;>simp_all
theorem AOA {t t':TypeId} (h:P.underlyingId t=P.underlyingId t') (ht:t<P.types.size) (ht':t'<P.types.size):K P t=K P t':=by
 unfold K
 rw[if_neg,if_neg,ZU t,ZU t',h]
 ·intro hh;have e:Nat.blt t' P.types.size=true:=Nat.ble_eq_true_of_le ht';rw[e]at hh;cases hh
 ·intro hh;have e:Nat.blt t P.types.size=true:=Nat.ble_eq_true_of_le ht;rw[e]at hh;cases hh
theorem HT.of_tag {t t' u:TypeId} {vs:List V} (h:HT P t (.agg u vs)) (hk:(∃fs,K P t'= .struct u fs)∨∃n e,K P t'= .array u n e):HT P t' (.agg u vs):=by
 have hu':u=P.underlyingId t'∧t'<P.types.size:=by
  rcases hk with⟨fs,hk⟩|⟨n,e,hk⟩
  ·obtain⟨_,_,_,h⟩:=FN hk;exact⟨h,Fh (by rw[hk];simp)⟩
  ·exact⟨(FM hk).2,Fh (by rw[hk];simp)⟩
 cases h with
 |scal hk hv ho=>simp[V.scal]at hv
 |struct hk hl H=>
  obtain⟨_,_,_,hu⟩:=FN hk
  have e:=AOA (P:=P) (hu.symm.trans hu'.1) (Fh (by rw[hk];simp)) hu'.2
  exact .struct (e▸hk) hl H
 |array hk hl H=>
  have hu:=(FM hk).2
  have e:=AOA (P:=P) (hu.symm.trans hu'.1) (Fh (by rw[hk];simp)) hu'.2
  exact .array (e▸hk) hl H
theorem AA4 {t:TypeId} {v:V} {c:Value} (ht:HT P t v) (h:AR P g w v c):AR P g w (cp P t v) c∧(cp P t v).noOwn=true∧HT P t (cp P t v):=by
 unfold cp
 split
 ·exact⟨h.weak,h.noOwn_weak,ht.weak⟩
 ·rename_i hs;exact⟨h,ht.noOwn depth (by simpa using hs),ht⟩
theorem AA5 (L:Lay P) {s:TypeId} {f:Nat} {x v:V} {cx:Value} (h:Z9 P s f x=some v) (hx:VR P g w x cx):
 ∃c,(Instr.field s cx f).run P w= .ok c w∧VR P g w v c∧v.noOwn=true:=by
 unfold Z9 at h
 split at h
 ·rename_i u fs hk
  obtain⟨F,hF,rfl,hu⟩:=FN hk
  split at h
  ·rename_i t xs ft hft
   split at h
   ·rename_i htu
    subst htu
    obtain⟨y,hy,rfl⟩:=Option.map_eq_some_iff.1 h
    obtain⟨t0,cs,rfl,ht,hn,hl⟩:=hx.agg'
    have hts:=ht.of_tag (t':=s) (.inl ⟨_,hk⟩)
    rw[List.getElem?_map,Option.map_eq_some_iff]at hft
    obtain⟨fd,hfd,rfl⟩:=hft
    have hFd:F[f]?=some fd:=by rw[←Array.getElem?_toList];exact hfd
    have hof:=L.offs s F hF (Fh (by rw[hk];simp)) f fd hFd
    have hstp:SC P s f=some (fd.offset,fd.type):=by
     simp only[SC,hk]
     rw[List.getElem?_map,hfd,hof,←List.map_take,List.map_map];rfl
    obtain⟨hty,c,hc,har⟩:=Ig L hts ⟨hn,hl⟩ hstp hy
    obtain⟨r1,r2,_⟩:=AA4 hty har
    refine⟨c,?_,.val r1,r2⟩
    simp only[Instr.field,Sem.run_bind,Ad hF,Result.andThen_ok,hFd,asAgg,Sem.run_pure,hc]
   ·cases h
  ·cases h
 ·cases h
theorem AA6 (L:Lay P) {t:TypeId} {x i v:V} {cx ci:Value} (h:Il P t x i=some v) (hx:VR P g w x cx) (hi:VR P g w i ci):
 ∃c,(Instr.index t cx ci).run P w= .ok c w∧VR P g w v c∧v.noOwn=true:=by
 unfold Il at h
 split at h
 ·rename_i k n
  obtain rfl:=hi.int'
  split at h
  ·rename_i s
   split at h
   case h_2=>cases h
   rename_i hs
   split at h
   ·rename_i hin
    obtain⟨i1,i2,i3,i4⟩:=Eu hin
    obtain⟨b,hb,rfl⟩:=Option.map_eq_some_iff.1 h
    obtain⟨z,rfl,rfl⟩:=hx.str'
    refine⟨_,?_,.of_int _ _,rfl⟩
    have e:z[n.toNat]?=some b:=by
     rw[Array.getElem?_toList]at hb;exact hb
    simp only[Instr.index,asIntOf,Sem.run_bind,Sem.run_pure,Result.andThen_ok,Ad hs,if_pos i1,e]
   ·cases h
  ·rename_i u xs
   split at h
   ·rename_i u' m e hk
    split at h
    ·rename_i hc
     simp only[Bool.and_eq_true,decide_eq_true_eq]at hc
     obtain⟨rfl,hin⟩:=hc
     obtain⟨i1,i2,i3,i4⟩:=Eu hin
     obtain⟨y,hy,rfl⟩:=Option.map_eq_some_iff.1 h
     obtain⟨t0,cs,rfl,ht,hn,hl⟩:=hx.agg'
     have hts:=ht.of_tag (t':=t) (.inr ⟨_,_,hk⟩)
     obtain⟨hty,c,hc,har⟩:=Ig L hts ⟨hn,hl⟩ (i:=n.toNat) (by simp only[SC,hk,if_pos i3];rfl) hy
     obtain⟨r1,r2,_⟩:=AA4 hty har
     refine⟨c,?_,.val r1,r2⟩
     simp only[Instr.index,asIntOf,Sem.run_bind,Sem.run_pure,Result.andThen_ok,Ad (FM hk).1,Sem.run_ite]
     rw[if_pos ⟨i1,i2⟩]
     simp only[Sem.run_bind,run_sizeOf (L.array _ _ _ _ hk).2,Result.andThen_ok,hc]
    ·cases h
   ·cases h
  ·cases h
 ·cases h
theorem AA7 {x v:V} {cx:Value} {o:Oper} {a:Act} {xo:Operand} (he:a.eval xo=cx) (ho:o.op= .nilCheck xo) (h:Ag x=some v) (hx:VR P g w x cx):
 ∃c,(execOp a.eval o).run P w= .ok (.value c) w∧VR P g w v c∧v.noOwn=true:=by
 unfold Ag at h
 split at h
 ·obtain rfl:=Option.some.inj h
  refine⟨cx,?_,hx,rfl⟩
  cases hx.leaf' rfl (by simp)with
  |ref=>simp only[execOp,ho,he];rfl
 ·obtain rfl:=Option.some.inj h
  refine⟨cx,?_,hx,rfl⟩
  cases hx.leaf' rfl (by simp)with
  |rop=>simp only[execOp,ho,he];rfl
 ·obtain rfl:=Option.some.inj h
  refine⟨cx,?_,hx,rfl⟩
  cases hx.leaf' rfl (by simp)with
  |clo=>simp only[execOp,ho,he];rfl
 ·cases h
theorem ADZ {x v:V} {cx:Value} {i:Nat} (h:ext x i=some v) (hx:VR P g w x cx):∃c,(Instr.extract cx i).run P w= .ok c w∧VR P g w v c∧v.noOwn=true:=by
 unfold ext at h
 split at h
 ·rename_i vs
  obtain⟨cs,rfl,h1,h2,h3⟩:=hx.tup'
  have hil:i<cs.length:=by
   rcases Nat.lt_or_ge i vs.length with h'|h'
   ·omega
   ·rw[List.getElem?_eq_none h']at h;cases h
  have hc:cs[i]?=some cs[i]:=List.getElem?_eq_getElem hil
  refine⟨cs[i],by simp[Instr.extract,hc],.val (h3 i v _ h hc),?_⟩
  rw[Dk,List.all_eq_true]at h1
  exact h1 v (List.mem_of_getElem? h)
 ·cases h
theorem AJV {x v:V} {cx:Value} {i:Nat} (h:QI x i=some v) (hx:VR P g w x cx):∃c,(Instr.extract cx i).run P w= .ok c w∧VR P g w v c∧v.noOwn=true:=by
 unfold QI at h
 obtain⟨v0,h0,rfl⟩:=Option.map_eq_some_iff.1 h
 obtain⟨c,hc,hv,_⟩:=ADZ h0 hx
 exact⟨c,hc,hv.weak,hv.noOwn_weak⟩
theorem AJW {x y v:V} {cx cy:Value} {ts:Array TypeId} {t:TypeId} (h:O4 x y=some v) (hx:VR P g w x cx) (hy:VR P g w y cy):
 ∃c,(Builtin.min_ ts t #[cx,cy]).run P w= .ok c w∧VR P g w v c∧v.noOwn=true:=by
 unfold O4 at h
 split at h
 ·obtain rfl:=hx.int';obtain rfl:=hy.int'
  split at h
  ·obtain rfl:=Option.some.inj h
   exact⟨_,rfl,.of_int _ _,rfl⟩
  ·cases h
 ·cases h
theorem AJX {x y v:V} {cx cy:Value} {ts:Array TypeId} {t:TypeId} (h:Xh x y=some v) (hx:VR P g w x cx) (hy:VR P g w y cy):
 ∃c,(Builtin.max_ ts t #[cx,cy]).run P w= .ok c w∧VR P g w v c∧v.noOwn=true:=by
 unfold Xh at h
 split at h
 ·obtain rfl:=hx.int';obtain rfl:=hy.int'
  split at h
  ·obtain rfl:=Option.some.inj h
   exact⟨_,rfl,.of_int _ _,rfl⟩
  ·cases h
 ·cases h
end
end AM
end
section
namespace AM
open Go
section
variable {P:Program} {A:Ann} {g:G} {w:World}
theorem Md (L:Lay P) (e:TypeId):∀(xs:List V) (i:Nat),(∀x∈xs,HT P e x)→BD (xs.drop i)=(BD xs).drop (i*P.cellsOf e)
 |[],i,_=>by simp[BD]
 |x::xs,0,_=>by simp
 |x::xs,i+1,h=>by
  have hx:x.fl.length=P.cellsOf e:=HT.size L (h x (by simp))
  rw[List.drop_succ_cons,Md L e xs i fun y hy=>h y (by simp[hy])]
  simp only[BD]
  rw[List.drop_append,(List.drop_eq_nil_of_le (by rw[Nat.succ_mul];omega):x.fl.drop ((i+1)*P.cellsOf e)=[]),List.nil_append]
  congr 1
  rw[Nat.succ_mul];omega
theorem Ji (L:Lay P) (e:TypeId):∀(xs:List V) (i:Nat),(∀x∈xs,HT P e x)→BD (xs.take i)=(BD xs).take (i*P.cellsOf e)
 |[],i,_=>by simp[BD]
 |x::xs,0,_=>by simp[BD]
 |x::xs,i+1,h=>by
  have hx:x.fl.length=P.cellsOf e:=HT.size L (h x (by simp))
  rw[List.take_succ_cons]
  simp only[BD]
  rw[Ji L e xs i fun y hy=>h y (by simp[hy]),List.take_append,List.take_of_length_le (l:=x.fl) (by rw[Nat.succ_mul];omega)]
  congr 2
  rw[Nat.succ_mul];omega
theorem AA8 {xs:List V} {i j:Nat} (h:AU xs=true):AU ((xs.take j).drop i)=true:=by
 rw[ED,List.all_eq_true]at*
 exact fun x hx=>h x (List.mem_of_mem_take (List.mem_of_mem_drop hx))
theorem LR.sub (L:Lay P) (W:WG g w) {e:TypeId} {f f':Fl} {xs:List V} {b off i j k:Nat} {cs:List Value} (hf':f'≠ .nil) (hff:f'≠ .lent→f≠ .lent) (hlim:g.lim f b≤g.lim f' b)
 (ht:∀x∈xs,HT P e x) (hcl:f≠ .lent→AU xs=true) (hn:cs.length=(BD xs).length)
 (hc:∀(j:Nat) (c:Value),cs[j]?=some c→w.cell? ⟨b,off+j,none⟩=some c) (hl:∀(j:Nat) (x:V) (c:Value),(BD xs)[j]?=some x→cs[j]?=some c→LR P g w x c)
 (hb:b<w.heap.size) (hro:off+cs.length≤g.lim f b) (hij:i≤j) (hj:j≤xs.length) (hk:j-i≤k):
 LR P g w (.lst e f' ((xs.take j).drop i)) (.slice (some ⟨b,off+i*P.cellsOf e,none⟩) (j-i) k):=by
 have hlen:((xs.take j).drop i).length=j-i:=by simp;omega
 rw[←hlen]
 have hfl:BD ((xs.take j).drop i)=((BD xs).take (j*P.cellsOf e)).drop (i*P.cellsOf e):=by
  rw[Md L e _ i fun x hx=>ht x (List.mem_of_mem_take hx),Ji L e xs j ht]
 have hcsl:cs.length=xs.length*P.cellsOf e:=by rw[hn];exact Aw L xs e fun x hx=>HT.size L (ht x hx)
 refine .lst e f' _ b (off+i*P.cellsOf e) k ((cs.take (j*P.cellsOf e)).drop (i*P.cellsOf e)) hf' (fun x hx=>ht x (List.mem_of_mem_take (List.mem_of_mem_drop hx))) (fun h=>AA8 (hcl (hff h)))
  (by rw[hfl];simp[hn]) (fun m c hm=> ?_) (fun m x c hx hm=> ?_) hb ?_ (by omega)
 ·rw[List.getElem?_drop,List.getElem?_take]at hm
  split at hm
  ·rw[Nat.add_assoc];exact hc _ _ hm
  ·cases hm
 ·rw[hfl,List.getElem?_drop,List.getElem?_take]at hx
  rw[List.getElem?_drop,List.getElem?_take]at hm
  split at hm
  ·rename_i hlt;rw[if_pos hlt]at hx;exact hl _ x c hx hm
  ·cases hm
 ·have h1:i*P.cellsOf e≤j*P.cellsOf e:=Nat.mul_le_mul_right _ hij
  have h2:j*P.cellsOf e≤xs.length*P.cellsOf e:=Nat.mul_le_mul_right _ hj
  simp only[List.length_drop,List.length_take]
  omega
inductive OR (P:Program) (g:G) (w:World):Option V→Option Value→Prop where
 |none:OR P g w none none
 |some {v:V} {c:Value}:VR P g w v c→OR P g w (some v) (some c)
theorem OE {k:IntKind} {n:Int} {y:Nat} {code:BoundsCode} (h1:0≤n) (h2:n≤y):(Instr.sliceBound (.int k n) y code).run P w= .ok n.toNat w:=by
 simp only[Instr.sliceBound,asIntOf,Sem.run_bind,Sem.run_pure,Result.andThen_ok,Sem.run_ite,if_pos (show 0≤n∧n≤(y:Int)from ⟨h1,h2⟩)]
def AJY (j:Nat) (lo:Option V):Option Nat:=
 match lo with
 |none=>some 0
 |some (.int _ i)=>if 0≤i∧i≤j then some i.toNat else none
 |_=>none
theorem ADa {lo:Option V} {clo:Option Value} {i j:Nat} (h:AJY j lo=some i) (hr:OR P g w lo clo) (code:BoundsCode):
 i≤j∧((clo=none∧i=0)∨∃v,clo=some v∧(Instr.sliceBound v j code).run P w= .ok i w):=by
 cases hr with
 |none=>obtain rfl:=Option.some.inj h;exact⟨Nat.zero_le _,.inl ⟨rfl,rfl⟩⟩
 |some hv=>
  rename_i v c
  cases v with
  |int k n=>
   obtain rfl:=hv.int'
   simp only[AJY]at h
   split at h
   ·rename_i hb
    obtain rfl:=Option.some.inj h
    exact⟨by omega,.inr ⟨_,rfl,OE hb.1 hb.2⟩⟩
   ·cases h
  |_=>cases h
def AA9 (n m:Nat) (hi:Option V) (x:Bool):Option Nat:=
 match hi with
 |none=>if x then none else some n
 |some (.int _ j)=>if 0≤j∧j≤m then some j.toNat else none
 |_=>none
theorem ZV {hi:Option V} {chi:Option Value} {n m j:Nat} {x:Bool} (h:AA9 n m hi x=some j) (hr:OR P g w hi chi) (cap:Nat) (hm:m≤cap) (code:BoundsCode):
 (chi=none∧x=false∧j=n)∨(j≤m∧∃v,chi=some v∧(Instr.sliceBound v cap code).run P w= .ok j w):=by
 cases hr with
 |none=>
  cases x with
  |true=>cases h
  |false=>obtain rfl:=Option.some.inj h;exact .inl ⟨rfl,rfl,rfl⟩
 |some hv=>
  rename_i v c
  cases v with
  |int k n=>
   obtain rfl:=hv.int'
   simp only[AA9]at h
   split at h
   ·rename_i hb
    obtain rfl:=Option.some.inj h
    exact .inr ⟨by omega,_,rfl,OE hb.1 (by omega)⟩
   ·cases h
  |_=>cases h
def maxOf (n:Nat) (mx:Option V):Option Nat:=
 match mx with
 |none=>some n
 |some (.int _ m)=>if 0≤m∧m≤n then some m.toNat else none
 |_=>none
theorem AEc (n:Nat) (lo hi mx:Option V):CQ n lo hi mx=(maxOf n mx).bind fun m=>(AA9 n m hi mx.isSome).bind fun j=>(AJY j lo).map fun i=>(i,j):=rfl
theorem GI {n:Nat} {lo hi mx:Option V} {i j:Nat} {clo chi cmx:Option Value} (h:CQ n lo hi mx=some (i,j)) (cap:Nat) (hcap:n≤cap) (isS:Bool)
 (hlo:OR P g w lo clo) (hhi:OR P g w hi chi) (hmx:OR P g w mx cmx):
 i≤j∧j≤n∧∃m,j≤m∧m≤cap∧(mx.isSome=true→m≤n)∧(mx=none→m=cap)∧(Instr.sliceBounds isS n cap clo chi cmx).run P w= .ok (i,j,m) w:=by
 rw[AEc]at h
 obtain⟨m0,hm0,h⟩:=Option.bind_eq_some_iff.1 h
 obtain⟨j0,hj0,h⟩:=Option.bind_eq_some_iff.1 h
 obtain⟨i0,hi0,he⟩:=Option.map_eq_some_iff.1 h
 obtain⟨rfl,rfl⟩:=Prod.mk.inj he
 cases hmx with
 |none=>
  obtain rfl:=Option.some.inj hm0
  obtain⟨l1,l2⟩:=ADa hi0 hlo .sliceB
  rcases ZV hj0 hhi cap hcap (if isS then .sliceAcap else .sliceAlen)with⟨rfl,_,rfl⟩|⟨hjn,v,rfl,hv⟩
  ·refine⟨l1,Nat.le_refl _,cap,hcap,Nat.le_refl _,by simp,fun _=>rfl,?_⟩
   rcases l2 with⟨rfl,rfl⟩|⟨u,rfl,hu⟩
   ·rfl
   ·simp only[Instr.sliceBounds,Sem.run_bind,Sem.run_pure,Result.andThen_ok]
    erw [hu];rfl
  ·refine⟨l1,hjn,cap,by omega,Nat.le_refl _,by simp,fun _=>rfl,?_⟩
   rcases l2 with⟨rfl,rfl⟩|⟨u,rfl,hu⟩
   ·simp only[Instr.sliceBounds,Sem.run_bind,Sem.run_pure,Result.andThen_ok,hv]
   ·simp only[Instr.sliceBounds,Sem.run_bind,Sem.run_pure,Result.andThen_ok,hv]
    erw [hu];rfl
 | @some vm cm hv=>
   cases vm with
   |int k x=>
    obtain rfl:=hv.int'
    simp only[maxOf]at hm0
    split at hm0
    ·rename_i hb
     obtain rfl:=Option.some.inj hm0
     have hbm:(Instr.sliceBound (.int k x) cap (if isS then .slice3Acap else .slice3Alen)).run P w= .ok x.toNat w:=OE hb.1 (by omega)
     obtain⟨l1,l2⟩:=ADa hi0 hlo .slice3C
     rcases ZV hj0 hhi x.toNat (Nat.le_refl _) .slice3B with⟨_,hx,_⟩|⟨hjn,v,rfl,hv⟩
     ·simp at hx
     ·refine⟨l1,by omega,x.toNat,hjn,by omega,fun _=>by omega,by simp,?_⟩
      rcases l2 with⟨rfl,rfl⟩|⟨u,rfl,hu⟩
      ·simp only[Instr.sliceBounds,Sem.run_bind,Sem.run_pure,Result.andThen_ok,hbm,hv]
      ·simp only[Instr.sliceBounds,Sem.run_bind,Sem.run_pure,Result.andThen_ok,hbm,hv]
       erw [hu];rfl
    ·cases hm0
   |_=>cases hm0
theorem AJZ {t:TypeId} {x v:V} {cx:Value} {ty:TypeId} (h:lenV P t x=some v) (hx:VR P g w x cx):
 ∃c,(Builtin.len_ #[t] ty #[cx]).run P w= .ok c w∧VR P g w v c∧v.noOwn=true:=by
 unfold lenV at h
 have e0:(#[t]:Array TypeId)[0]?=some t:=rfl
 have e1:(#[cx]:Array Value)[0]?=some cx:=rfl
 split at h
 ·rename_i hu
  split at h
  ·obtain rfl:=Option.some.inj h
   obtain⟨b,rfl,rfl⟩:=hx.str'
   refine⟨.int .i64 b.size,?_,?_,rfl⟩
   ·simp only[Builtin.len_,e0,e1,Sem.run_bind,Ad hu,Result.andThen_ok];rfl
   ·rw[show b.data.toList.length=b.size from Array.length_toList];exact .of_int _ _
  ·cases h
 ·rename_i e hu
  split at h
  ·rename_i e' f xs
   obtain rfl:=Option.some.inj h
   have hl:=hx.leaf' rfl (by simp)
   have:∃a cap,cx= .slice a xs.length cap:=by cases hl<;>exact⟨_,_,rfl⟩
   obtain⟨a,cap,rfl⟩:=this
   refine⟨_,?_,.of_int _ _,rfl⟩
   simp only[Builtin.len_,e0,e1,Sem.run_bind,Ad hu,Result.andThen_ok];rfl
  ·rename_i id p off len e'
   obtain rfl:=Option.some.inj h
   have hl:=hx.leaf' rfl (by simp)
   have:∃a cap,cx= .slice a len cap:=by cases hl<;>exact⟨_,_,rfl⟩
   obtain⟨a,cap,rfl⟩:=this
   refine⟨_,?_,.of_int _ _,rfl⟩
   simp only[Builtin.len_,e0,e1,Sem.run_bind,Ad hu,Result.andThen_ok];rfl
  ·cases h
 ·rename_i n e hu
  obtain rfl:=Option.some.inj h
  refine⟨_,?_,.of_int _ _,rfl⟩
  simp only[Builtin.len_,e0,e1,Sem.run_bind,Ad hu,Result.andThen_ok];rfl
 ·cases h
theorem slice_form {c:Value} {e:TypeId} {f:Fl} {xs:List V} (h:LR P g w (.lst e f xs) c):∃a cap,c= .slice a xs.length cap∧xs.length≤cap∧(f= .nil→a=none∧cap=0∧xs=[])∧(a=none→cap=0):=by
 cases h with
 |nil=>exact⟨none,0,rfl,Nat.le_refl _,fun _=>⟨rfl,rfl,rfl⟩,fun _=>rfl⟩
 |emp _ _ a cap hf hs=>exact⟨a,cap,rfl,Nat.zero_le _,fun h=>(hf h).elim,fun h=>(hs h).2⟩
 |lst _ _ _ b off cap cs hf ht hcl hn hc hl hb hro hcap=>exact⟨_,cap,rfl,hcap,fun h=>(hf h).elim,fun h=>by cases h⟩
theorem ATt {bt:BT} {p:List Nat} {o n:Nat} {t u e:TypeId} {m:Nat} (h:bt.var? P p=some (o,t)) (hk:K P t= .array u m e):bt.arr? P p=some (o,m,e):=by
 cases bt with
 |var t0=>simp only[BT.arr?];rw[h];simp[hk]
 |row e0 n0=>
  cases p with
  |nil=>simp[BT.var?]at h
  |cons j p=>simp only[BT.arr?];rw[h];simp[hk]
theorem AMg (L:Lay P) (W:WG g w) {t:TypeId} {x v:V} {cx:Value} {lo hi mx:Option V} {clo chi cmx:Option Value} (h:KZ P t x lo hi mx=some v) (hx:VR P g w x cx)
 (hlo:OR P g w lo clo) (hhi:OR P g w hi chi) (hmx:OR P g w mx cmx):
 ∃c,(Instr.sliceAt t cx clo chi cmx).run P w= .ok c w∧VR P g w v c∧v.noOwn=true:=by
 unfold KZ at h
 split at h
 · -- a string
   rename_i s
   split at h
   case isFalse=>cases h
   rename_i hc
   simp only[Bool.and_eq_true]at hc
   obtain⟨hc2,hc1⟩:=hc
   have hu:P.underlying t=some .string:=by
    unfold ABS at hc2
    split at hc2
    ·assumption
    ·cases hc2
   cases hmx with
   |some=>cases hc1
   |none=>
   obtain⟨⟨i,j⟩,hb,rfl⟩:=Option.map_eq_some_iff.1 h
   obtain⟨z,rfl,rfl⟩:=hx.str'
   show ∃c,_∧VR P g w (.str ((z.data.toList.take j).drop i)) c∧_
   have hzl:z.data.toList.length=z.size:=Array.length_toList
   obtain⟨b1,b2,m,b3,b4,b5,b6,b7⟩:=GI hb z.size (by rw[hzl];exact Nat.le_refl _) false hlo hhi .none
   rw[hzl]at b7
   refine⟨.string (z.extract i j),?_,.of_str ?_,rfl⟩
   ·simp only[Instr.sliceAt,Instr.slice,Sem.run_bind,Ad hu,Result.andThen_ok]
    rw[if_neg (by simp)]
    simp only[Sem.run_bind,b7,Result.andThen_ok,Sem.run_pure]
   ·rw[Lib.extract_data,List.drop_take]
 · -- a list
   rename_i e f xs
   split at h
   case h_2=>cases h
   rename_i e' hk
   split at h
   case isFalse=>cases h
   rename_i he
   subst he
   obtain⟨⟨i,j⟩,hb,rfl⟩:=Option.map_eq_some_iff.1 h
   show ∃c,_∧VR P g w (.lst e' f.cut ((xs.take j).drop i)) c∧_
   have hu:=Df hk
   have hl:=hx.leaf' rfl (by simp)
   obtain⟨a,cap,rfl,hcap,hnil,hnone⟩:=slice_form hl
   obtain⟨b1,b2,m,b3,b4,b5,b6,b7⟩:=GI hb cap hcap true hlo hhi hmx
   refine⟨.slice (if m=i then a else a.map (·.add (i*P.cellsOf e'))) (j-i) (m-i),?_,?_,by cases f<;>rfl⟩
   ·simp only[Instr.sliceAt,Instr.slice,Sem.run_bind,Ad hu,Result.andThen_ok,b7,run_sizeOf (L.slice _ _ hk).2,Sem.run_pure]
   ·refine .lf rfl ?_
    by_cases hf:f= .nil
    ·obtain⟨rfl,rfl,rfl⟩:=hnil hf
     subst hf
     simp only[List.length_nil]at b2
     obtain rfl:j=0:=by omega
     obtain rfl:i=0:=by omega
     obtain rfl:m=0:=by omega
     exact .nil e'
    ·have hfc:f.cut≠ .nil:=by cases f<;>simp_all [Fl.cut]
     by_cases hij:i=j
     ·subst hij
      have e0:(xs.take i).drop i=[]:=by simp
      rw[e0,Nat.sub_self]
      exact .emp e' _ _ _ hfc (fun h=>⟨by cases f<;>rfl,by
       have:a=none:=by
        split at h
        ·exact h
        ·exact Option.map_eq_none_iff.1 h
       have:=hnone this
       omega⟩)
     ·cases hl with
      |nil=>exact(hf rfl).elim
      |emp=>simp at b2;omega
      |lst _ _ _ b off _ cs _ ht hcl hn hc hll hbs hro _=>
       rw[if_neg (by omega)]
       simp only[Option.map_some,addr_add]
       exact LR.sub L W hfc (by cases f<;>simp_all [Fl.cut]) (by cases f<;>simp_all [Fl.cut,G.lim]) ht hcl hn hc hll hbs hro b1 b2 (by omega)
 · -- a window
   rename_i id p off len e
   split at h
   case h_2=>cases h
   rename_i e' hk
   split at h
   case isFalse=>cases h
   rename_i he
   subst he
   obtain⟨⟨i,j⟩,hb,rfl⟩:=Option.map_eq_some_iff.1 h
   show ∃c,_∧VR P g w (.win id p (off+i) (j-i) e') c∧_
   have hu:=Df hk
   have hl:=hx.leaf' rfl (by simp)
   obtain⟨a,cap,rfl,hcap⟩:∃a cap,cx= .slice a len cap∧len≤cap:=by
    cases hl with
    |win _ _ _ _ _ bt o n b cap h1 h2 h3 h4 h5 h6=>exact⟨_,cap,rfl,h5⟩
    |win0 _ _ _ _ bt o n a cap h1 h2 h3 _=>exact⟨a,cap,rfl,Nat.zero_le _⟩
   obtain⟨b1,b2,m,b3,b4,b5,b6,b7⟩:=GI hb cap hcap true hlo hhi hmx
   refine⟨.slice (if m=i then a else a.map (·.add (i*P.cellsOf e'))) (j-i) (m-i),?_,.lf rfl ?_,rfl⟩
   ·simp only[Instr.sliceAt,Instr.slice,Sem.run_bind,Ad hu,Result.andThen_ok,b7,run_sizeOf (L.slice _ _ hk).2,Sem.run_pure]
   ·cases hl with
    |win _ _ _ _ _ bt o n b cap h1 h2 h3 h4 h5 h6=>
     by_cases hij:i=j
     ·subst hij;rw[Nat.sub_self];exact .win0 _ _ _ _ bt o n _ _ h1 h2 (by omega) (fun h=>by split at h<;>simp at h)
     ·rw[if_neg (by omega)]
      simp only[Option.map_some,addr_add]
      rw[Nat.add_assoc,←Nat.add_mul]
      refine .win _ _ _ _ _ bt o n b _ h1 h2 (by omega) h4 (by omega) fun hp hr=> ?_
      refine Nat.le_trans ?_ (h6 hp hr)
      rw[Nat.add_assoc,Nat.add_assoc,←Nat.add_mul,←Nat.add_mul]
      exact Nat.add_le_add_left (Nat.mul_le_mul_right _ (by omega)) _
    |win0 _ _ _ _ bt o n a cap h1 h2 h3 hz=>
     obtain rfl:j=0:=by omega
     obtain rfl:i=0:=by omega
     exact .win0 _ _ _ _ bt o n _ _ h1 h2 (by omega) (fun h=>by
      have:a=none:=by
       split at h
       ·exact h
       ·exact Option.map_eq_none_iff.1 h
      have:=hz this
      omega)
 · -- an array in a box
   rename_i id p t'
   split at h
   case h_2=>cases h
   rename_i u n e hk
   split at h
   case isFalse=>cases h
   rename_i he
   subst he
   obtain⟨⟨i,j⟩,hb,rfl⟩:=Option.map_eq_some_iff.1 h
   show ∃c,_∧VR P g w (.win id p i (j-i) e) c∧_
   cases hx.leaf' rfl (by simp)with
   |ref _ _ _ bt o b h1 h2 h3=>
    obtain⟨b1,b2,m,b3,b4,b5,b6,b7⟩:=GI hb n (Nat.le_refl _) false hlo hhi hmx
    have harr:=ATt (n:=n) h2 hk
    refine⟨.slice (some (if m=i then⟨b,o,none⟩else(⟨b,o,none⟩:Addr).add (i*P.cellsOf e))) (j-i) (m-i),?_,.lf rfl ?_,rfl⟩
    ·simp only[Instr.sliceAt,Sem.run_bind,Ad (FM hk).1,Result.andThen_ok,Instr.sureAddr,Sem.run_pure,b7,run_sizeOf (L.array _ _ _ _ hk).2]
    ·by_cases hij:i=j
     ·subst hij;rw[Nat.sub_self];exact .win0 _ _ _ _ bt o n _ _ h1 harr (by omega) (fun h=>by first|cases h|(split at h<;>simp at h))
     ·rw[if_neg (by omega),addr_add]
      refine .win _ _ _ _ _ bt o n b _ h1 harr (by omega) h3 (by omega) fun hp hr=> ?_
      obtain⟨e',n',rfl⟩:=hr
      subst hp
      simp[BT.var?]at h2
 · -- an array that is read alone
   rename_i t' y
   split at h
   case h_2=>cases h
   rename_i u n e hk
   split at h
   case isFalse=>cases h
   rename_i he
   subst he
   split at h
   case h_2=>cases h
   rename_i u' xs
   split at h
   case isFalse=>cases h
   rename_i hu'
   subst hu'
   obtain⟨⟨i,j⟩,hb,rfl⟩:=Option.map_eq_some_iff.1 h
   show ∃c,_∧VR P g w (.lst e .lent ((xs.take j).drop i)) c∧_
   cases hx.leaf' rfl (by simp)with
   |rop _ _ b o cs h1 h2 h3 h4 h5 h6=>
    obtain⟨b1,b2,m,b3,b4,b5,b6,b7⟩:=GI hb n (Nat.le_refl _) false hlo hhi hmx
    have hxs:xs.length=n∧∀v∈xs,HT P e v:=by
     cases h1 with
     |scal hk' hv' ho=>simp[V.scal]at hv'
     |struct hk' _ _=>rw[hk]at hk';cases hk'
     |array hk' hl H=>rw[hk]at hk';cases hk';exact⟨hl,H⟩
    refine⟨.slice (some (if m=i then⟨b,o,none⟩else(⟨b,o,none⟩:Addr).add (i*P.cellsOf e))) (j-i) (m-i),?_,.lf rfl ?_,rfl⟩
    ·simp only[Instr.sliceAt,Sem.run_bind,Ad (FM hk).1,Result.andThen_ok,Instr.sureAddr,Sem.run_pure,b7,run_sizeOf (L.array _ _ _ _ hk).2]
    ·by_cases hij:i=j
     ·subst hij
      have e0:(xs.take i).drop i=[]:=by simp
      rw[e0,Nat.sub_self];exact .emp e _ _ _ (by simp) (fun h=>by first|cases h|(split at h<;>simp at h))
     ·rw[if_neg (by omega),addr_add]
      exact LR.sub L W (f:= .lent) (by simp) (by simp) (Nat.le_refl _) hxs.2 (by simp) h2 h3 h4 h5 h6 b1 (by omega) (by omega)
 ·cases h
end
end AM
end
end Go.Proofs.YtphoocnlpnnkdaaGreatDoor
