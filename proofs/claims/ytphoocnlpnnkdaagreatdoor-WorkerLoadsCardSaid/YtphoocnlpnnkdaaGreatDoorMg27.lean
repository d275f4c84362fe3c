/-
  Part of the proof of a statement about the given program: an abstract machine over its code, the simulation, its functions' equations, what they compute.
-/
import Derived.Shelf.SlSortCmp.NoneTotal
import Derived.Test.YtphoocnlpnnkdaaGreatDoorMg21
set_option linter.unusedVariables false
set_option linter.unusedSimpArgs false
set_option linter.unusedSectionVars false
noncomputable section
namespace Go.Proofs.YtphoocnlpnnkdaaGreatDoor
section
open Go AM Go.RowKit Go.Shelf
theorem AKA (k:Nat) (z:EG):QJ k (cl3 k z)=true:=by
 unfold cl3
 split
 ·assumption
 ·unfold QJ;simp
theorem ARH {k:Nat} {z:EG} (h:QJ k z=true):cl3 k z=z:=if_pos h
theorem AOG {z:EG} (h:QJ 1 z=true):(-2305843009213693952≤z.1∧z.1≤2305843009213693952)∧ -2305843009213693952≤z.2.1∧z.2.1≤2305843009213693952:=by
 simp[QJ]at h;omega
def J3 (k:Nat) (z:EG):List Value:=tc (cl3 k z)
theorem NT (k:Nat) (z:EG):(J3 k z).length=3:=rfl
theorem AKB (k:Nat) (z:EG):∀v∈J3 k z,v.oneCell'=true:=by
 intro v hv
 simp only[J3,tc,List.mem_cons,List.not_mem_nil,or_false]at hv
 rcases hv with rfl|rfl|rfl<;>rfl
theorem flat3 (f:EG→List Value) (hf:∀z,(f z).length=3):∀(zs:List EG) (t:Nat),t<zs.length*3→(zs.flatMap f)[t]! =(f zs[t/3]!)[t%3]!
 |[],t,h=>by simp at h
 |z::zs,t,h=>by
  rw[List.length_cons,Nat.add_mul]at h
  rw[List.flatMap_cons]
  by_cases ht:t<3
  ·rw[Nat.div_eq_of_lt ht,Nat.mod_eq_of_lt ht]
   simp only[List.getElem!_eq_getElem?_getD,List.getElem?_append_left (show t<(f z).length by rw[hf];exact ht)]
   rfl
  ·obtain⟨u,rfl⟩:∃u,t=u+3:=⟨t-3,by omega⟩
   have ih:=flat3 f hf zs u (by omega)
   rw[show(u+3)/3=u/3+1 by omega,show(u+3)%3=u%3 by omega]
   simp only[List.getElem!_eq_getElem?_getD,List.getElem?_append_right (show(f z).length≤u+3 by rw[hf];omega),hf,Nat.add_sub_cancel]at ih⊢
   rw[ih]
   simp only[List.getElem?_cons_succ]
theorem VK (f:EG→List Value) (hf:∀z,(f z).length=3) (zs:List EG):(zs.flatMap f).length=zs.length*3:=by
 induction zs with
 |nil=>rfl
 |cons z zs ih=>rw[List.flatMap_cons,List.length_append,hf,ih,List.length_cons];omega
theorem Zv (k:Nat) (zs:List EG):Sort.flatK (J3 k) 3 zs.toArray=(zs.flatMap (J3 k)).toArray:=by
 refine Sort.ext_get! (by rw[Sort.size_flatK,List.size_toArray,List.size_toArray,VK _ (NT k)]) fun t ht=> ?_
 rw[Sort.size_flatK,List.size_toArray]at ht
 rw[Sort.get_flatK _ _ _ _ (by simpa using ht)]
 have:=flat3 (J3 k) (NT k) zs t ht
 simp only[List.getElem!_toArray]at*
 rw[this]
theorem Xc {k:Nat}:∀{zs:List EG},(∀z∈zs,QJ k z=true)→zs.flatMap (J3 k)=zs.flatMap tc
 |[],_=>rfl
 |z::zs,h=>by
  rw[List.flatMap_cons,List.flatMap_cons,Xc (fun x hx=>h x (List.mem_cons_of_mem _ hx)),J3,ARH (h z List.mem_cons_self)]
theorem Zw (F:Array Value) (vs:List Value) (h:vs.length=F.size):Sort.setMany F 0 vs=vs.toArray:=by
 refine Sort.ext_get! (by simp[h]) fun t ht=> ?_
 rw[Sort.size_setMany]at ht
 rw[Sort.get_setMany _ _ _ _ ht,if_pos ⟨Nat.zero_le _,by omega⟩]
 simp
theorem Xd {k:Nat} {w:World} {b:Nat} {zs zs':List EG} (hl:zs'.length=zs.length) (hz':∀z∈zs',QJ k z=true) (hH:Sort.HoldsK (J3 k) 3 w b 0 zs.toArray):
 Sort.putRowK (J3 k) 3 w b 0 zs'.toArray=w.setCells b 0 (zs'.flatMap tc):=by
 have hs:(zs'.flatMap (J3 k)).length=(Sort.flatK (J3 k) 3 zs.toArray).size:=by
  rw[VK _ (NT k),Sort.size_flatK,List.size_toArray,hl]
 have h:=Sort.setCells_putRow w b 0 (zs'.flatMap (J3 k)) 0 (Sort.flatK (J3 k) 3 zs.toArray) (by omega)
 rw[Sort.putRow_self id w b 0 _ hH,Zw _ _ hs,←Zv,Xc hz']at h
 exact h.symm
theorem Zx {P:Program} {ρ:Ren} (L:SlLaysF0.n6 P ρ) (k g:Nat) (aE:∀w,(isAgg (ρ.t 24)).run P w= .ok true w) (zE:∀w,(Go.sizeOf (ρ.t 24)).run P w= .ok 3 w)
 (eg:∀args w,(callFunc g args).run P w= .ok (.enter g args) w)
 (hc:∀x y:EG,QJ k x=true→QJ k y=true→∀W:World,Calls P g #[.agg #[.int .i64 x.1,.int .i64 x.2.1,.int .i64 x.2.2],.agg #[.int .i64 y.1,.int .i64 y.2.1,.int .i64 y.2.2]] W
  fun e w'=>e= .returned (.int .i64 (cf3 k x y))∧∃q os',w'=Sort.grow (W.drewN q) os'):
 (∀(w:World) (a:Option Addr) (cap:Nat),Calls P (ρ.f 6) #[.slice a 0 cap,.func (.func g) #[] #[]] w fun e' w'=>e'= .returned (.tuple #[])∧Below w.heap.size w w')∧
 ∀(w:World) (b cap:Nat) (zs:List EG),(∀z∈zs,QJ k z=true)→(∀(j:Nat) (c:Value),(zs.flatMap tc)[j]?=some c→w.cell? ⟨b,j,none⟩=some c∧w.frozen? ⟨b,j,none⟩=false)→b<w.heap.size→zs.length≤EI→
 Calls P (ρ.f 6) #[.slice (some ⟨b,0,none⟩) zs.length cap,.func (.func g) #[] #[]] w fun e' w'=>e'= .returned (.tuple #[])∧Below (w.setCells b 0 ((Fa k zs).flatMap tc)).heap.size (w.setCells b 0 ((Fa k zs).flatMap tc)) w':=by
 refine⟨fun w a cap=>Calls.mono (AnyF.slices_SortFunc_none L a cap _ w) fun e' w' h=>⟨h.1,by rw[h.2];exact Below.refl _ _⟩,fun w b cap zs hz hcell hb hm=> ?_⟩
 have hH:Sort.HoldsK (J3 k) 3 w b 0 zs.toArray:=by
  intro j hj
  rw[Zv,Xc hz]at hj⊢
  rw[List.size_toArray]at hj
  have:=hcell j _ (List.getElem?_eq_getElem hj)
  rw[Nat.zero_add]
  have e:((zs.flatMap tc).toArray)[j]! =(zs.flatMap tc)[j]:=by simp[List.getElem?_eq_getElem hj]
  rw[e]
  exact this
 have hcmp:CmpLays P g #[] (J3 k) 3 (TL k) b 0 zs.toArray.size w:=fun m os dk hs x y=>hc (cl3 k x) (cl3 k y) (AKA k x) (AKA k y) _
 have hsz:zs.toArray.size<4611686018427387904:=by rw[List.size_toArray];have:EI=2147483648:=rfl;omega
 have h:=AnyQ.slices_SortFunc_eq L 3 aE zE (J3 k) (NT k) (AKB k) (TL k) (P6 k) g #[] b 0 cap zs.toArray w eg hcmp hH hb hsz
 rw[List.size_toArray]at h
 refine Calls.mono h fun e' w' hh=> ?_
 obtain⟨rfl,n,os,rfl⟩:=hh
 refine⟨rfl,?_⟩
 have pm:=KE k zs
 have hd:Sort.pdq (ltOf (TL k)) zs.toArray 0 zs.length (Lib.bitLen zs.length) true true=(Fa k zs).toArray:=by
  rw[Wy];unfold Xi;rw[Array.toArray_toList];rfl
 have e:=Xd (Ja k zs) (fun z hz'=>hz z (pm.mem_iff.1 hz')) hH
 rw[←e,sortWorldK,hd]
 refine⟨rfl,rfl,rfl,by simp[Sort.grow,Sort.putRowK,Sort.putRow,Sort.mapBlock],fun j hj=> ?_⟩
 exact Array.getElem?_append_left hj
end
end Go.Proofs.YtphoocnlpnnkdaaGreatDoor
