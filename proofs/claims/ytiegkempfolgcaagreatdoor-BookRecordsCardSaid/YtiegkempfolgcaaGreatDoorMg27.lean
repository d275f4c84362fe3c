/-
  Part of the proof of a statement about the given program: an abstract machine over its code, the simulation, its functions' equations, what they compute.
-/
import Derived.Shelf.SlSortCmp.NoneTotal
import Derived.Test.YtiegkempfolgcaaGreatDoorMg21
set_option linter.unusedVariables false
set_option linter.unusedSimpArgs false
set_option linter.unusedSectionVars false
noncomputable section
namespace Go.Proofs.YtiegkempfolgcaaGreatDoor
section
open Go AM Go.RowKit Go.Shelf
theorem ADn (k:Nat) (z:Ci):MZ k (cl3 k z)=true:=by
 unfold cl3
 split
 ·assumption
 ·unfold MZ;simp
theorem AJC {k:Nat} {z:Ci} (h:MZ k z=true):cl3 k z=z:=if_pos h
theorem AGz {z:Ci} (h:MZ 1 z=true):(-2305843009213693952≤z.1∧z.1≤2305843009213693952)∧ -2305843009213693952≤z.2.1∧z.2.1≤2305843009213693952:=by
 simp[MZ]at h;omega
def Hr (k:Nat) (z:Ci):List Value:=tc (cl3 k z)
theorem Jw (k:Nat) (z:Ci):(Hr k z).length=3:=rfl
theorem ADo (k:Nat) (z:Ci):∀v∈Hr k z,v.oneCell'=true:=by
 intro v hv
 simp only[Hr,tc,List.mem_cons,List.not_mem_nil,or_false]at hv
 rcases hv with rfl|rfl|rfl<;>rfl
theorem flat3 (f:Ci→List Value) (hf:∀z,(f z).length=3):∀(zs:List Ci) (t:Nat),t<zs.length*3→(zs.flatMap f)[t]! =(f zs[t/3]!)[t%3]!
 |[],t,h=>by simp at h
 |z::zs,t,h=>by
  rw[List.length_cons,Nat.add_mul]at h
  rw[List.flatMap_cons]
  by_cases ht:t<3
  ·rw[Nat.div_eq_of_lt ht,Nat.mod_eq_of_lt ht]
   simp only[List.getElem!_eq_getElem?_getD,List.getElem?_append_left (show t<(f z).length by rw[hf];exact ht)]
   rfl
  ·obtain⟨u,rfl⟩:∃u,t=u+3:=⟨t-3,by omega⟩
   have ih:=flat3 f hf zs u (by omega)
   rw[show(u+3)/3=u/3+1 by omega,show(u+3)%3=u%3 by omega]
   simp only[List.getElem!_eq_getElem?_getD,List.getElem?_append_right (show(f z).length≤u+3 by rw[hf];omega),hf,Nat.add_sub_cancel]at ih⊢
   rw[ih]
   simp only[List.getElem?_cons_succ]
theorem Ri (f:Ci→List Value) (hf:∀z,(f z).length=3) (zs:List Ci):(zs.flatMap f).length=zs.length*3:=by
 induction zs with
 |nil=>rfl
 |cons z zs ih=>rw[List.flatMap_cons,List.length_append,hf,ih,List.length_cons];omega
theorem V9 (k:Nat) (zs:List Ci):Sort.flatK (Hr k) 3 zs.toArray=(zs.flatMap (Hr k)).toArray:=by
 refine Sort.ext_get! (by rw[Sort.size_flatK,List.size_toArray,List.size_toArray,Ri _ (Jw k)]) fun t ht=> ?_
 rw[Sort.size_flatK,List.size_toArray]at ht
 rw[Sort.get_flatK _ _ _ _ (by simpa using ht)]
 have:=flat3 (Hr k) (Jw k) zs t ht
 simp only[List.getElem!_toArray]at*
 rw[this]
theorem Tj {k:Nat}:∀{zs:List Ci},(∀z∈zs,MZ k z=true)→zs.flatMap (Hr k)=zs.flatMap tc
 |[],_=>rfl
 |z::zs,h=>by
  rw[List.flatMap_cons,List.flatMap_cons,Tj (fun x hx=>h x (List.mem_cons_of_mem _ hx)),Hr,AJC (h z List.mem_cons_self)]
theorem WA (F:Array Value) (vs:List Value) (h:vs.length=F.size):Sort.setMany F 0 vs=vs.toArray:=by
 refine Sort.ext_get! (by simp[h]) fun t ht=> ?_
 rw[Sort.size_setMany]at ht
 rw[Sort.get_setMany _ _ _ _ ht,if_pos ⟨Nat.zero_le _,by omega⟩]
 simp
theorem Tm {k:Nat} {w:World} {b:Nat} {zs zs':List Ci} (hl:zs'.length=zs.length) (hz':∀z∈zs',MZ k z=true) (hH:Sort.HoldsK (Hr k) 3 w b 0 zs.toArray):
 Sort.putRowK (Hr k) 3 w b 0 zs'.toArray=w.setCells b 0 (zs'.flatMap tc):=by
 have hs:(zs'.flatMap (Hr k)).length=(Sort.flatK (Hr k) 3 zs.toArray).size:=by
  rw[Ri _ (Jw k),Sort.size_flatK,List.size_toArray,hl]
 have h:=Sort.setCells_putRow w b 0 (zs'.flatMap (Hr k)) 0 (Sort.flatK (Hr k) 3 zs.toArray) (by omega)
 rw[Sort.putRow_self id w b 0 _ hH,WA _ _ hs,←V9,Tj hz']at h
 exact h.symm
theorem WB {P:Program} {ρ:Ren} (L:SlLaysF0.n6 P ρ) (k g:Nat) (aE:∀w,(isAgg (ρ.t 24)).run P w= .ok true w) (zE:∀w,(Go.sizeOf (ρ.t 24)).run P w= .ok 3 w)
 (eg:∀args w,(callFunc g args).run P w= .ok (.enter g args) w)
 (hc:∀x y:Ci,MZ k x=true→MZ k y=true→∀W:World,Calls P g #[.agg #[.int .i64 x.1,.int .i64 x.2.1,.int .i64 x.2.2],.agg #[.int .i64 y.1,.int .i64 y.2.1,.int .i64 y.2.2]] W
  fun e w'=>e= .returned (.int .i64 (cf3 k x y))∧∃q os',w'=Sort.grow (W.drewN q) os'):
 (∀(w:World) (a:Option Addr) (cap:Nat),Calls P (ρ.f 6) #[.slice a 0 cap,.func (.func g) #[] #[]] w fun e' w'=>e'= .returned (.tuple #[])∧Below w.heap.size w w')∧
 ∀(w:World) (b cap:Nat) (zs:List Ci),(∀z∈zs,MZ k z=true)→(∀(j:Nat) (c:Value),(zs.flatMap tc)[j]?=some c→w.cell? ⟨b,j,none⟩=some c∧w.frozen? ⟨b,j,none⟩=false)→b<w.heap.size→zs.length≤C9→
 Calls P (ρ.f 6) #[.slice (some ⟨b,0,none⟩) zs.length cap,.func (.func g) #[] #[]] w fun e' w'=>e'= .returned (.tuple #[])∧Below (w.setCells b 0 ((D7 k zs).flatMap tc)).heap.size (w.setCells b 0 ((D7 k zs).flatMap tc)) w':=by
 refine⟨fun w a cap=>Calls.mono (AnyF.slices_SortFunc_none L a cap _ w) fun e' w' h=>⟨h.1,by rw[h.2];exact Below.refl _ _⟩,fun w b cap zs hz hcell hb hm=> ?_⟩
 have hH:Sort.HoldsK (Hr k) 3 w b 0 zs.toArray:=by
  intro j hj
  rw[V9,Tj hz]at hj⊢
  rw[List.size_toArray]at hj
  have:=hcell j _ (List.getElem?_eq_getElem hj)
  rw[Nat.zero_add]
  have e:((zs.flatMap tc).toArray)[j]! =(zs.flatMap tc)[j]:=by simp[List.getElem?_eq_getElem hj]
  rw[e]
  exact this
 have hcmp:CmpLays P g #[] (Hr k) 3 (Pm k) b 0 zs.toArray.size w:=fun m os dk hs x y=>hc (cl3 k x) (cl3 k y) (ADn k x) (ADn k y) _
 have hsz:zs.toArray.size<4611686018427387904:=by rw[List.size_toArray];have:C9=2147483648:=rfl;omega
 have h:=AnyQ.slices_SortFunc_eq L 3 aE zE (Hr k) (Jw k) (ADo k) (Pm k) (MK k) g #[] b 0 cap zs.toArray w eg hcmp hH hb hsz
 rw[List.size_toArray]at h
 refine Calls.mono h fun e' w' hh=> ?_
 obtain⟨rfl,n,os,rfl⟩:=hh
 refine⟨rfl,?_⟩
 have pm:=H9 k zs
 have hd:Sort.pdq (ltOf (Pm k)) zs.toArray 0 zs.length (Lib.bitLen zs.length) true true=(D7 k zs).toArray:=by
  rw[TF];unfold Tt;rw[Array.toArray_toList];rfl
 have e:=Tm (Gm k zs) (fun z hz'=>hz z (pm.mem_iff.1 hz')) hH
 rw[←e,sortWorldK,hd]
 refine⟨rfl,rfl,rfl,by simp[Sort.grow,Sort.putRowK,Sort.putRow,Sort.mapBlock],fun j hj=> ?_⟩
 exact Array.getElem?_append_left hj
end
end Go.Proofs.YtiegkempfolgcaaGreatDoor
