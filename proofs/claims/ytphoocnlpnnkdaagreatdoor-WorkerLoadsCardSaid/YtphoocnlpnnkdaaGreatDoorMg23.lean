/-
  Part of the proof of a statement about the given program: an abstract machine over its code, the simulation, its functions' equations, what they compute.
-/
import Derived.Below
import Derived.OpenShut
import Derived.Test.YtphoocnlpnnkdaaGreatDoorMg20
import Derived.Test.YtphoocnlpnnkdaaGreatDoorMg22
set_option linter.unusedVariables false
set_option linter.unusedSimpArgs false
set_option linter.unusedSectionVars false
noncomputable section
namespace Go.Proofs.YtphoocnlpnnkdaaGreatDoor
section
namespace AM
open Go
def FZ (P:Program):Nat→TypeId→Bool
 |0,_=>false
 |n+1,t=>match K P t with
  | .scal=>match P.underlying t with
    |some .bool=>true
    |some (.int _)=>true
    |some .string=>true
    |_=>false
  | .slice e=>FZ P n e
  | .struct _ fs=>fs.all (FZ P n)
  | .array _ _ e=>FZ P n e
  | .bad=>false
def LK {H:Type} (P:Program):Nat→TypeId→DataW H→V
 |0,_,_=> .undef
 |n+1,t,d=>match K P t with
  | .scal=>match d with
    | .lit (.bool b)=> .bool b
    | .lit (.int k m)=> .int k m
    | .lit (.string s)=> .str s
    |_=> .undef
  | .slice e=>match d with
    | .slice elems _=> .lst e .sh (elems.map (LK P n e))
    |_=> .lst e .sh []
  | .struct u fs=>match d with
    | .agg parts=> .agg u (List.zipWith (LK P n) fs parts)
    |_=> .undef
  | .array u _ e=>match d with
    | .agg parts=> .agg u (parts.map (LK P n e))
    |_=> .undef
  | .bad=> .undef
mutual
def V.wfI:V→Bool
 | .int k n=>(Lit.int k n).wf
 | .agg _ fs=>Xa fs
 | .row _ fs=>Xa fs
 | .lst _ _ fs=>Xa fs
 | .tup fs=>Xa fs
 |_=>true
 termination_by structural x=>x
def Xa:List V→Bool
 |[]=>true
 |x::xs=>x.wfI&&Xa xs
 termination_by structural x=>x
end
theorem AJ5 (xs:List V):Xa xs=xs.all V.wfI:=by
 induction xs with
 |nil=>rfl
 |cons x xs ih=>simp[Xa,ih]
section
variable {P:Program} {A:Ann} {w:World} {H:Type} {enc:TypeId×Value→H} {base:Nat} {spare:Nat→Bool} {held:Bool}
def G.start (w:World):G:={β:=[],ty:=[],H:=fun _=>none,ro:=Az w,lro:=Az w}
theorem LM {b:Nat} (h:w.heap.size≤b):Az w b=0:=by
 simp[Az,Array.getElem?_eq_none h]
theorem WG.start:WG (G.start w) w:=⟨fun b hb=>⟨rfl,LM hb,LM hb⟩,fun i b hb=>by simp[G.start]at hb,fun b=>Nat.le_refl _⟩
theorem BX.start:BX P (G.start w) w []:=by refine⟨rfl,rfl,?_,?_,?_,?_,?_⟩<;>simp[G.start]
theorem NS {g:G}:∀(xs:List V) (ss:List Nat) (cs:List Value),xs.length=ss.length→cs.length=ss.sum→(∀(i:Nat) (x:V) (s:Nat),xs[i]?=some x→ss[i]?=some s→LRs P g w x.fl ((cs.drop ((ss.take i).sum)).take s))→LRs P g w (BD xs) cs
 |[],[],cs,_,h,_=>by
  have:cs=[]:=List.eq_nil_of_length_eq_zero (by simpa using h)
  subst this
  exact⟨rfl,fun j x c h1=>by simp[BD]at h1⟩
 |[],_::_,_,h,_,_=>by simp at h
 |_::_,[],_,h,_,_=>by simp at h
 |x::xs,s::ss,cs,hl,hc,hh=>by
  have h0:=hh 0 x s rfl rfl
  simp only[List.take_zero,List.sum_nil,List.drop_zero]at h0
  simp only[List.sum_cons]at hc
  have h1:=NS xs ss (cs.drop s) (by simpa using hl) (by simp[hc]) fun i y t hy ht=>by
   have:=hh (i+1) y t (by simpa using hy) (by simpa using ht)
   simpa [List.drop_drop]using this
  have e:cs=cs.take s++cs.drop s:=(List.take_append_drop s cs).symm
  have hs:(cs.take s).length=s:=by simp;omega
  have hx:x.fl.length=s:=by rw[←h0.1,hs]
  refine⟨by simp only[BD,List.length_append];rw[←h1.1,hx];simp;omega,fun j y c a b=> ?_⟩
  simp only[BD]at a
  rw[e]at b
  rcases Nat.lt_or_ge j s with hj|hj
  ·rw[List.getElem?_append_left (by omega)]at a
   rw[List.getElem?_append_left (by omega)]at b
   exact h0.2 j y c a b
  ·rw[List.getElem?_append_right (by omega)]at a
   rw[List.getElem?_append_right (by omega)]at b
   rw[hx]at a;rw[hs]at b
   exact h1.2 _ y c a b
theorem Hg (n c i:Nat) (h:i≤n):((List.replicate n c).take i).sum=i*c:=by
 rw[List.take_replicate,Nat.min_eq_left h];simp
theorem OY {xs:List V} (h:∀x∈xs,x.clean=true):AU xs=true:=by
 rw[ED,List.all_eq_true];exact h
theorem Xb {xs:List V} (h:∀x∈xs,x.wfI=true):Xa xs=true:=by
 rw[AJ5,List.all_eq_true];exact h
theorem ABR (L:Lay P):∀(n fuel:Nat) (t:TypeId) (cs:List Value) (d:DataW H) (ps:List MemPlace),FZ P n t=true→DataW.trod enc P w base spare held fuel t cs=some (d,ps)→
 HT P t (LK P n t d)∧(LK P n t d).clean=true∧LRs P (G.start w) w (LK P n t d).fl cs∧(LK P n t d).wfI=true:=by
 intro n
 induction n with
 |zero=>intro fuel t cs d ps h;simp[FZ]at h
 |succ n ih=>
  intro fuel t cs d ps hg h
  simp only[FZ]at hg
  split at hg
  · -- one cell
    rename_i hk
    have one:∀{v:V} {c:Value},v.leafy=true→v.fl=[v]→LR P (G.start w) w v c→LRs P (G.start w) w v.fl [c]:=by
     intro v c _ hf hl
     rw[hf]
     exact⟨rfl,fun j x c' a b=>by cases j with
      |zero=>simp at a b;subst a b;exact hl
      |succ j=>simp at a⟩
    cases fuel with
    |zero=>simp[DataW.trod]at h
    |succ m=>
     simp only[LK,hk]
     unfold DataW.trod at h
     split at hg
     ·rename_i hu
      rw[hu]at h
      split at h<;>simp_all
      obtain⟨rfl,rfl⟩:=h
      exact⟨.scal hk rfl (by simp[Bd,hu]),rfl,one rfl rfl (.bool _),rfl⟩
     ·rename_i k hu
      rw[hu]at h
      split at h<;>simp_all
      obtain⟨⟨rfl,hw⟩,rfl,rfl⟩:=h
      exact⟨.scal hk rfl (by simp[Bd,hu]),rfl,one rfl rfl (.int _ _),hw⟩
     ·rename_i hu
      rw[hu]at h
      split at h<;>simp_all
      obtain⟨hs,rfl,rfl⟩:=h
      exact⟨.scal hk rfl (by simp[Bd,hu]),rfl,one rfl rfl (.str _),rfl⟩
     ·cases hg
  · -- a slice
    rename_i e hk
    simp only[LK,hk]
    obtain⟨hce,_,_,_⟩:=L.items t e hk
    rcases DataW.trod_slice (Df hk) h with⟨rfl,hx⟩|⟨a,len,cap,elems,rest,m,rfl,rfl,hx,hb,hlc,hcm,hel,hall,_⟩
    ·cases hx
     refine⟨.lst hk,rfl,⟨rfl,fun j x c a b=> ?_⟩,rfl⟩
     cases j with
     |zero=>simp[V.fl]at a b;subst a b;exact .emp e .sh none 0 (by simp) (fun _=>⟨rfl,rfl⟩)
     |succ j=>simp[V.fl]at a
    ·cases hx
     simp only[List.map_map]
     generalize hxs:elems.map (LK P n e∘(·.1))=xs
     have hxl:xs.length=len:=by rw[←hxs];simp[hel]
     have item:∀(i:Nat) (x:V),xs[i]?=some x→∃ci,w.cells? base (a.add (i*P.cellsOf e)) (P.cellsOf e)=some ci∧HT P e x∧x.clean=true∧LRs P (G.start w) w x.fl ci∧x.wfI=true:=by
      intro i x hi
      rw[←hxs,List.getElem?_map,Option.map_eq_some_iff]at hi
      obtain⟨y,hy,rfl⟩:=hi
      have hlt:i<len:=by rw[←hel];exact BJ hy
      have:=hall i hlt
      rw[hy]at this
      obtain⟨ci,h1,h2⟩:=Option.bind_eq_some_iff.1 this
      obtain⟨a1,a2,a3,a4⟩:=ih m e ci y.1 y.2 hg h2
      exact⟨ci,h1,a1,a2,a3,a4⟩
     have hHT:∀x∈xs,HT P e x:=fun x hx=>by
      obtain⟨i,hi,rfl⟩:=List.mem_iff_getElem.1 hx
      obtain⟨_,_,h,_⟩:=item i _ (List.getElem?_eq_getElem hi);exact h
     have hcl:AU xs=true:=OY fun x hx=>by
      obtain⟨i,hi,rfl⟩:=List.mem_iff_getElem.1 hx
      obtain⟨_,_,_,h,_⟩:=item i _ (List.getElem?_eq_getElem hi);exact h
     have hwf:Xa xs=true:=Xb fun x hx=>by
      obtain⟨i,hi,rfl⟩:=List.mem_iff_getElem.1 hx
      obtain⟨_,_,_,_,_,h⟩:=item i _ (List.getElem?_eq_getElem hi);exact h
     refine⟨.lst hk,rfl,⟨rfl,fun j x c p q=> ?_⟩,by simp only[V.wfI];exact hwf⟩
     cases j with
     |succ j=>simp[V.fl]at p
     |zero=>
      simp[V.fl]at p q
      subst p q
      by_cases h0:len=0
      ·have:xs=[]:=List.eq_nil_of_length_eq_zero (by omega)
       subst this
       rw[h0]
       exact .emp e .sh _ cap (by simp) (fun h=>⟨rfl,by first|cases h|simp_all⟩)
      · -- the cells
        obtain⟨c0,hc0,_⟩:=item 0 (xs[0]'(by omega)) (List.getElem?_eq_getElem _)
        obtain⟨_,hc0l,hc0g⟩:=World.cells?_some hc0
        have hspot:a.spot=none:=by
         have:=hc0g 0 hce
         rw[List.getElem?_eq_getElem (by omega)]at this
         simp only[Nat.zero_mul,Addr.add,if_true,World.cell?]at this
         split at this
         ·split at this
          ·cases this
          ·rename_i hh;simpa using hh
         ·cases this
        obtain⟨b,off,sp⟩:=a
        simp only at hspot
        subst hspot
        have addr:∀x y,(Addr.add (Addr.add ⟨b,off,none⟩ x) y)=⟨b,off+(x+y),none⟩:=by
         intro x y
         simp only[Addr.add]
         split<;>split<;>simp_all<;>omega
        let all:List Value:=(List.range (len*P.cellsOf e)).map fun j=>(w.cell? ⟨b,off+j,none⟩).getD undef
        have cell:∀i r,i<len→r<P.cellsOf e→∃ci,w.cells? base (Addr.add ⟨b,off,none⟩ (i*P.cellsOf e)) (P.cellsOf e)=some ci∧∃c,ci[r]?=some c∧w.cell? ⟨b,off+(i*P.cellsOf e+r),none⟩=some c:=by
         intro i r hi hr
         obtain⟨ci,h1,_⟩:=item i (xs[i]'(by omega)) (List.getElem?_eq_getElem _)
         obtain⟨_,hl,hcg⟩:=World.cells?_some h1
         refine⟨ci,h1,ci[r]'(by omega),List.getElem?_eq_getElem _,?_⟩
         have:=hcg r hr
         rw[addr]at this
         rw[this,List.getElem?_eq_getElem (by omega)]
        have hallg:∀j,j<len*P.cellsOf e→∃c,all[j]?=some c∧w.cell? ⟨b,off+j,none⟩=some c:=by
         intro j hj
         have h1:j/P.cellsOf e<len:=Nat.div_lt_of_lt_mul (by rw[Nat.mul_comm];exact hj)
         have h2:j%P.cellsOf e<P.cellsOf e:=Nat.mod_lt _ hce
         obtain⟨ci,_,c,_,hc⟩:=cell _ _ h1 h2
         rw[Nat.div_add_mod']at hc
         refine⟨c,?_,hc⟩
         simp only[all,List.getElem?_map,List.getElem?_range hj,Option.map_some,hc,Option.getD_some]
        have hall:all.length=len*P.cellsOf e:=by simp[all]
        have hflat:LRs P (G.start w) w (BD xs) all:=by
         refine NS xs (List.replicate len (P.cellsOf e)) all (by simp[hxl]) (by simp[hall]) fun i x s hx hs=> ?_
         obtain⟨ci,h1,_,_,h4,_⟩:=item i x hx
         have hi:i<len:=by rw[←hxl];exact BJ hx
         rw[List.getElem?_replicate]at hs
         simp[hi]at hs
         subst hs
         rw[Hg _ _ _ (Nat.le_of_lt hi)]
         have:(all.drop (i*P.cellsOf e)).take (P.cellsOf e)=ci:=by
          obtain⟨_,hl,hcg⟩:=World.cells?_some h1
          apply List.ext_getElem?
          intro r
          rw[List.getElem?_take]
          split
          ·rename_i hr
           rw[List.getElem?_drop]
           obtain⟨c,e1,e2⟩:=hallg (i*P.cellsOf e+r) (by
            have:(i+1)*P.cellsOf e≤len*P.cellsOf e:=Nat.mul_le_mul_right _ hi
            rw[Nat.succ_mul]at this;omega)
           have:=hcg r hr
           rw[addr]at this
           rw[e1,←this,e2]
          ·rename_i hr
           rw[List.getElem?_eq_none (by omega)]
         rw[this];exact h4
        have hpos:0<len*P.cellsOf e:=Nat.mul_pos (by omega) hce
        obtain⟨cl,_,hlast⟩:=hallg (len*P.cellsOf e-1) (by omega)
        have hbox:off+len*P.cellsOf e≤Az w b∧b<w.heap.size:=by
         simp only[World.cell?]at hlast
         split at hlast
         ·rename_i cc e1 e2 hh
          refine⟨?_,lt_of_block hh⟩
          simp only[Az,hh]
          simp only[Option.isSome_none,Bool.false_eq_true,if_false]at hlast
          have:=(Array.getElem?_eq_some_iff.1 hlast).1
          omega
         ·cases hlast
        have:=LR.lst (P:=P) (g:=G.start w) (w:=w) e .sh xs b off cap all (by simp) hHT (fun _=>hcl) hflat.1 (fun j c hj=>by
         obtain⟨c',e1,e2⟩:=hallg j (by rw[←hall];exact BJ hj)
         rw[hj]at e1;cases e1;exact e2) hflat.2 hbox.2 (by simp only[G.lim,G.start];rw[hall];exact hbox.1) (by omega)
        rw[hxl]at this
        exact this
  · -- a struct
    rename_i u fs hk
    simp only[LK,hk]
    obtain⟨F,hF,rfl,rfl⟩:=FN hk
    obtain⟨xs,m,rfl,hx,hcl,hxl,hall⟩:=DataW.trod_struct hF h
    cases hx
    have ht:t<P.types.size:=ATv (by rw[hk];simp)
    suffices main:∀zs:List V,List.zipWith (LK P n) (F.toList.map (·.type)) (xs.map (·.1))=zs→HT P t (.agg (P.underlyingId t) zs)∧(V.agg (P.underlyingId t) zs).clean=true∧LRs P (G.start w) w (V.agg (P.underlyingId t) zs).fl cs∧(V.agg (P.underlyingId t) zs).wfI=true from main _ rfl
    intro zs hzs
    have hzl:zs.length=F.size:=by rw[←hzs];simp[hxl]
    have item:∀(i:Nat) (f:Field) (z:V),F[i]?=some f→zs[i]?=some z→HT P f.type z∧z.clean=true∧LRs P (G.start w) w z.fl ((cs.drop f.offset).take (P.cellsOf f.type))∧z.wfI=true:=by
     intro i f z hf hz
     rw[←hzs,List.getElem?_zipWith_eq_some]at hz
     obtain⟨ty,dd,h1,h2,rfl⟩:=hz
     rw[List.getElem?_map,Option.map_eq_some_iff]at h1 h2
     obtain⟨f',hf',rfl⟩:=h1
     obtain⟨x,hx,rfl⟩:=h2
     rw[Array.getElem?_toList]at hf'
     rw[hf]at hf';cases hf'
     have:=hall i f hf
     rw[hx]at this
     have hgf:FZ P n f.type=true:=List.all_eq_true.1 hg _ (List.mem_map.2 ⟨f,Array.mem_toList_iff.2 (Array.mem_of_getElem? hf),rfl⟩)
     exact ih m f.type _ x.1 x.2 hgf this
    have mem:∀z∈zs,∃(i:Nat) (f:Field),F[i]?=some f∧zs[i]?=some z:=by
     intro z hz
     obtain⟨i,hi,rfl⟩:=List.mem_iff_getElem.1 hz
     exact⟨i,F[i]'(by omega),Array.getElem?_eq_getElem _,List.getElem?_eq_getElem _⟩
    refine⟨.struct hk (by simp[hzl]) fun i ft v h1 h2=> ?_,?_,?_,?_⟩
    ·rw[List.getElem?_map,Option.map_eq_some_iff]at h1
     obtain⟨f,hf,rfl⟩:=h1
     rw[Array.getElem?_toList]at hf
     exact(item i f v hf h2).1
    ·simp only[V.clean]
     exact OY fun z hz=>by obtain⟨i,f,h1,h2⟩:=mem z hz;exact(item i f z h1 h2).2.1
    ·simp only[V.fl]
     refine NS zs (F.toList.map fun f=>P.cellsOf f.type) cs (by simp[hzl]) (by rw[hcl,L.struct _ _ _ hk,List.map_map];rfl) fun i z s hz hs=> ?_
     rw[List.getElem?_map,Option.map_eq_some_iff]at hs
     obtain⟨f,hf,rfl⟩:=hs
     rw[Array.getElem?_toList]at hf
     have:=(item i f z hf hz).2.2.1
     rw[L.offs t F hF ht i f hf]at this
     rw[←List.map_take]
     exact this
    ·simp only[V.wfI]
     exact Xb fun z hz=>by obtain⟨i,f,h1,h2⟩:=mem z hz;exact(item i f z h1 h2).2.2.2
  · -- an array
    rename_i u k e hk
    simp only[LK,hk]
    obtain⟨hA,rfl⟩:=FM hk
    obtain⟨xs,m,rfl,hx,hcl,hxl,hall⟩:=DataW.trod_array hA h
    cases hx
    simp only[List.map_map]
    generalize hzs:xs.map (LK P n e∘(·.1))=zs
    have hzl:zs.length=k:=by rw[←hzs];simp[hxl]
    have item:∀(i:Nat) (z:V),zs[i]?=some z→HT P e z∧z.clean=true∧LRs P (G.start w) w z.fl ((cs.drop (i*P.cellsOf e)).take (P.cellsOf e))∧z.wfI=true:=by
     intro i z hz
     have hlt:=BJ hz
     rw[←hzs,List.getElem?_map,Option.map_eq_some_iff]at hz
     obtain⟨x,hx,rfl⟩:=hz
     have:=hall i (by omega)
     rw[hx]at this
     exact ih m e _ x.1 x.2 hg this
    have mem:∀z∈zs,∃(i:Nat),zs[i]?=some z:=by
     intro z hz
     obtain⟨i,hi,rfl⟩:=List.mem_iff_getElem.1 hz
     exact⟨i,List.getElem?_eq_getElem _⟩
    refine⟨.array hk hzl fun z hz=> ?_,?_,?_,?_⟩
    ·obtain⟨i,hi⟩:=mem z hz;exact(item i z hi).1
    ·simp only[V.clean]
     exact OY fun z hz=>by obtain⟨i,h2⟩:=mem z hz;exact(item i z h2).2.1
    ·simp only[V.fl]
     refine NS zs (List.replicate k (P.cellsOf e)) cs (by simp[hzl]) (by rw[hcl,(L.array _ _ _ _ hk).1];simp) fun i z s hz hs=> ?_
     have hi:i<k:=by rw[←hzl];exact BJ hz
     rw[List.getElem?_replicate]at hs
     simp[hi]at hs
     subst hs
     rw[Hg _ _ _ (Nat.le_of_lt hi)]
     exact(item i z hz).2.2.1
    ·simp only[V.wfI]
     exact Xb fun z hz=>by obtain⟨i,h2⟩:=mem z hz;exact(item i z h2).2.2.2
  ·cases hg
theorem AOF (L:Lay P) {n:Nat} {t:TypeId} {v:Value} {d:DataW H} {p:List MemPlace} (hg:FZ P n t=true) (hl:(LK P n t d).leafy=true) (hv:v.cells= #[v]) (h:DataW.Trod enc P w base spare held t v d p):
 VR P (G.start w) w (LK P n t d) v:=by
 obtain⟨fuel,hf⟩:=h
 rw[hv]at hf
 obtain⟨_,_,h3,_⟩:=ABR L n fuel t _ d p hg hf
 rw[Jm hl]at h3
 exact .lf hl (h3.2 0 _ _ rfl rfl)
theorem AT1 (L:Lay P) {n:Nat} {t u:TypeId} {fs:List V} {cs:Array Value} {d:DataW H} {p:List MemPlace} (hg:FZ P n t=true) (hl:LK P n t d= .agg u fs) (h:DataW.Trod enc P w base spare held t (.agg cs) d p):
 VR P (G.start w) w (.agg u fs) (.agg cs):=by
 obtain⟨fuel,hf⟩:=h
 obtain⟨h1,_,h3,_⟩:=ABR L n fuel t _ d p hg hf
 rw[hl]at h1 h3
 have e:cs=(cs.toList).toArray:=by simp
 rw[e]
 exact .val (.agg h1 h3.1 h3.2)
theorem AJ6 (L:Lay P) {n i fuel:Nat} {t:TypeId} {nm:String} {cs:Array Value} {d:DataW H} {p:List MemPlace} (hg:FZ P n t=true) (hn:P.globalNamed nm=some i) (hvar:w.var? P nm=some cs)
 (h:DataW.trod enc P w base spare held fuel t cs.toList=some (d,p)):LR P (G.start w) w (.rop t (LK P n t d)) (.pointer (some ⟨i,0,none⟩))∧(G.start w).H i=none∧some i∉(G.start w).β∧Az w i=(LK P n t d).fl.length:=by
 obtain⟨h1,_,h3,_⟩:=ABR L n fuel t _ d p hg h
 have hbl:∃e fz,w.heap[i]?=some (.cells cs e fz):=by
  simp only[World.var?,hn,Option.bind_some]at hvar
  split at hvar
  ·rename_i c e fz hh;cases hvar;exact⟨e,fz,hh⟩
  ·cases hvar
 obtain⟨e,fz,hbl⟩:=hbl
 have hb:=lt_of_block hbl
 have hsz:cs.size≤Az w i:=by simp[Az,hbl]
 refine⟨?_,rfl,by simp[G.start],by simp only[Az,hbl,←h3.1,Array.length_toList]⟩
 refine .rop t _ i 0 cs.toList h1 h3.1 (fun j c hj=> ?_) h3.2 hb (by simpa [G.start]using hsz)
 rw[Array.getElem?_toList]at hj
 rw[←World.var?_cell hn hvar j]at hj
 simpa using hj
theorem AE8 (L:Lay P) (FO:FnOk P A) (hm:P.follows .mixedOrders=true) (hc:OX P A=true) {f:FuncId} {vs h:List V} {args:Array Value} (hr:JB P A f vs []=some (.bool true,h)) (Gl:GlobOk P A (G.start w) w)
 (hlen:vs.length=args.size) (hv:∀(i:Nat) (v:V) (c:Value),vs[i]?=some v→args[i]?=some c→VR P (G.start w) w v c) (hno:BG vs=true):
 Calls P f args w fun e w'=>e= .returned (.bool true)∧Go.RowKit.Below w.heap.size w w':=by
 refine Calls.mono (Zr L FO hm hc hr (G.start w) w args (.inl 0) BX.start WG.start Gl (by simp[G.start]) hlen hv hno) fun e w' he=> ?_
 obtain⟨c,g',rfl,E,hV,_⟩:=he
 refine⟨by rw[hV.bool'],⟨E.os,E.tape,E.out,E.size,fun k hk=> ?_⟩⟩
 exact(E.same k hk rfl (by simp[G.start])).1
end
end AM
end
end Go.Proofs.YtphoocnlpnnkdaaGreatDoor
