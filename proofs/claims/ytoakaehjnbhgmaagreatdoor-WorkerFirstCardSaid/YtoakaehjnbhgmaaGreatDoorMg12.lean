/-
  Part of the proof of a statement about the given program: an abstract machine over its code, the simulation, its functions' equations, what they compute.
-/
import Derived.Test.YtoakaehjnbhgmaaGreatDoorMg10
import Derived.Test.YtoakaehjnbhgmaaGreatDoorMg11
import Derived.Test.YtoakaehjnbhgmaaGreatDoorMg3
import Derived.Test.YtoakaehjnbhgmaaGreatDoorMg5
import Derived.Test.YtoakaehjnbhgmaaGreatDoorMg8
import Derived.Test.YtoakaehjnbhgmaaGreatDoorMg9
set_option linter.unusedVariables false
set_option linter.unusedSimpArgs false
set_option linter.unusedSectionVars false
set_option maxRecDepth 100000
noncomputable section
namespace Go.Proofs.YtoakaehjnbhgmaaGreatDoor
section
open Go AM
namespace Ed
structure Edg where
 fr:Nat
 to:Nat
 w:Int
 hf:fr<64
 ht:to<64
instance:Inhabited Edg:=⟨⟨0,0,0,by omega,by omega⟩⟩
def vEdg (e:Edg):V:= .agg 95 [.int .i64 (e.fr:Int),.int .i64 (e.to:Int),.int .i64 e.w]
def cmpE (x y:Edg):Int:=if x.fr=y.fr then(x.to:Int)-y.to else(x.fr:Int)-y.fr
def ltE (x y:Edg):Bool:=decide (cmpE x y<0)
@[go_sem] theorem ALu (x:Edg):(vEdg x).pl=true:=(rfl)
@[go_sem] theorem AKj (x:Edg):CG 95 (vEdg x)=true:=Ou ..
theorem compare_am (x y:Edg):Cl 158 [vEdg x,vEdg y] []=some (.int .i64 (cmpE x y),[]):=by
 have h1:=x.hf;have h2:=x.ht;have h3:=y.hf;have h4:=y.ht
 rw[AEQ,cmpE]
 by_cases h:x.fr=y.fr
 ·rw[if_pos h]
  simp only[vEdg]
  simp(disch:=first|assumption|omega|(with_reducible rfl)|(simp only[go_sem];done)|(simp only[go_sem];omega)|fail) only[↓reduceIte,↓AO,Nat.reduceAdd,go_sem,h]
 ·rw[if_neg h]
  have:¬(x.fr:Int)=(y.fr:Int):=by omega
  simp only[vEdg]
  simp(disch:=first|assumption|omega|(with_reducible rfl)|(simp only[go_sem];done)|(simp only[go_sem];omega)|fail) only[↓reduceIte,↓AO,Nat.reduceAdd,go_sem]
theorem ltE_iff (x y:Edg):ltE x y=true↔(x.fr<y.fr∨x.fr=y.fr∧x.to<y.to):=by
 rw[ltE,decide_eq_true_eq,cmpE]
 by_cases h:x.fr=y.fr
 ·rw[if_pos h];constructor<;>intro k<;>omega
 ·rw[if_neg h];constructor<;>intro k<;>omega
theorem ltE_iff' (x y:Edg):ltE x y=false↔¬(x.fr<y.fr∨x.fr=y.fr∧x.to<y.to):=by
 rw[←ltE_iff,Bool.not_eq_true]
abbrev cm:V:= .clo 158 []
def rowM (d:Array Edg):V:= .row 96 (d.toList.map vEdg)
def winM (id n:Nat):V:= .win id [] 0 n 96
def Y6 (e:Edg):Int×Int×Int:=(e.fr,e.to,e.w)
theorem ACA {α β:Type} (f:α→β) {r s:List β} (h:r.Perm s):∀l:List α,l.map f=s→∃l':List α,l'.Perm l∧l'.map f=r:=by
 induction h with
 |nil=>intro l hl;exact⟨l,List.Perm.refl _,hl⟩
 |cons x h ih=>
  intro l hl
  match l,hl with
  |y::l,hl=>
   simp only[List.map_cons,List.cons.injEq]at hl
   obtain⟨l',h1,h2⟩:=ih l hl.2
   exact⟨y::l',h1.cons y,by rw[List.map_cons,hl.1,h2]⟩
 |swap x y r=>
  intro l hl
  match l,hl with
  |a::b::l,hl=>
   simp only[List.map_cons,List.cons.injEq]at hl
   exact⟨b::a::l,List.Perm.swap a b l,by simp[hl]⟩
 |trans h1 h2 ih1 ih2=>
  intro l hl
  obtain⟨l1,a1,a2⟩:=ih2 l hl
  obtain⟨l2,b1,b2⟩:=ih1 l1 a2
  exact⟨l2,b1.trans a1,b2⟩
theorem SS (l:List Edg):∃l':List Edg,l'.Perm l∧l'.map Y6=EM 1 (l.map Y6):=ACA Y6 (Hz 1 _) l rfl
def srtL (l:List Edg):List Edg:=Classical.choose (SS l)
theorem srtL_perm (l:List Edg):(srtL l).Perm l:=(Classical.choose_spec (SS l)).1
theorem VL (l:List Edg):(srtL l).map Y6=EM 1 (l.map Y6):=(Classical.choose_spec (SS l)).2
theorem Wq (x:Edg):QB 1 (Y6 x)=true:=by
 have:=x.hf;have:=x.ht
 refine Bool.or_eq_true_iff.2 (Or.inr ?_)
 simp only[Bool.and_eq_true,Y6]
 refine⟨⟨⟨?_,?_⟩,?_⟩,?_⟩<;>exact decide_eq_true (by omega)
theorem AIb (x y:Edg):decide (WH 1 (Y6 x) (Y6 y)<0)=ltE x y:=by
 rw[Bool.eq_iff_iff,decide_eq_true_eq,ltE_iff]
 unfold WH cl3
 rw[if_pos (Wq x),if_pos (Wq y),AGy (by rfl)]
 simp only[Y6];omega
theorem srtL_sorted (l:List Edg):(srtL l).Pairwise (fun a b=>ltE b a=false):=by
 have h:=(AB8 1 (l.map Y6)).2
 rw[←VL]at h
 rw[List.pairwise_iff_getElem]
 intro i j hi hj hij
 have hlen:=(srtL_perm l).length_eq
 have:=h i j (Nat.zero_le _) hij (by simp;omega)
 simp only[List.getElem!_toArray,List.getElem!_eq_getElem?_getD,List.getElem?_map,List.getElem?_eq_getElem hi,List.getElem?_eq_getElem hj,Option.map_some,Option.getD_some]at this
 rw[AIb]at this
 exact this
theorem ACB (u:TypeId):∀l:List Edg,(l.map vEdg).all (i3t 95)=true
 |[]=>rfl
 |x::l=>by rw[List.map_cons,List.all_cons,ACB u l];rfl
theorem AGz:∀l:List Edg,(l.map vEdg).all (fun x=>QB 1 (t3 x))=true
 |[]=>rfl
 |x::l=>by rw[List.map_cons,List.all_cons,AGz l,Bool.and_true];exact Wq x
theorem AKk (l:List Edg):(l.map vEdg).map t3=l.map Y6:=by rw[List.map_map];rfl
theorem AKl (l:List Edg):(l.map Y6).map (Xh 95)=l.map vEdg:=by rw[List.map_map];rfl
theorem sort_aps {h:List V} {id:Nat} {l:List Edg} (hh:h[id]?=some (rowM l.toArray)) (hl:l.length≤1000000):
 aps 1000158 96 [winM id l.length,cm] h=some (.tup [],h.set id (rowM (srtL l).toArray)):=by
 have hd:1000158/1000000=1:=rfl
 have tg:(l.map vEdg).all (i3t (WM (l.map vEdg)))=true:=by
  cases l with
  |nil=>rfl
  |cons x l=>exact ACB 0 (x::l)
 have mk:((EM 1 (l.map Y6)).map (Xh (WM (l.map vEdg))))=(srtL l).map vEdg:=by
  rw[←VL]
  cases l with
  |nil=>rw[List.perm_nil.1 (srtL_perm [])];rfl
  |cons x l=>exact AKl _
 simp only[aps,winM,rowM]at hh⊢
 have e1:Nat.beq l.length (l.map vEdg).length=true:=by simp
 have e2:Nat.ble (l.map vEdg).length DV=true:=by simp[DV,Nat.ble_eq];omega
 simp only[hh,hd]
 rw[if_pos (by simp only[tg,AGz,e1,e2];rfl),AKk,mk]
end Ed
end
section
open Go AM
structure E0 where
 fr:Int
 to:Int
 w:Int
 deriving DecidableEq
abbrev tE:TypeId:=95
def IK (e:E0):V:= .agg tE [.int .i64 e.fr,.int .i64 e.to,.int .i64 e.w]
@[go_sem] theorem AMw (x:E0):(IK x).pl=true:=(rfl)
@[go_sem] theorem Y7 (l:List E0):I5 (l.map IK)=true:=DN (fun _=>rfl) l
@[go_sem] theorem Y8 (x:E0):CG tE (IK x)=true:=Ou ..
theorem Y9 {l:List E0} {i:Nat} (h:i<l.length):(l.map IK)[i]?=some (IK l[i]):=by simp[h]
structure Grf where
 n:Int
 es:List E0
abbrev vG (f:Fl) (g:Grf):V:= .agg 23 [.int .i64 g.n,.lst 96 f (g.es.map IK)]
def Ez (n:Int) (e:E0):Bool:=decide (e.fr<0)||decide (n≤e.fr)||decide (e.to<0)||decide (n≤e.to)||decide (e.w<0)||decide (1048576<e.w)
abbrev rG:V:= .ref 0 [] 24
theorem AIc (n:Int) (l:V) (e:E0):Cl 154 [IK e,rG] [.agg 23 [.int .i64 n,l]]=some (.bool (Ez n e),[.agg 23 [.int .i64 n,l]]):=by
 rw[AEM]
 simp only[IK]
 repeat' first|rfl|refine SI (fun _=> ?_) (fun _=> ?_)|refine SK (fun _=> ?_) (fun _=> ?_)|simp(disch:=first|assumption|omega|(with_reducible rfl)|(simp only[go_sem];done)|(simp only[go_sem];omega)|fail) only[↓reduceIte,↓AO,Nat.reduceAdd,go_sem]
 all_goals (simp_all [Ez]<;>omega)
abbrev AFY:V:= .clo 154 [rG]
theorem AKm {R:Type} (n:Int) (l:V) (e:E0) (k:V→List V→Option R):Cj P DU W AFY [IK e] [.agg 23 [.int .i64 n,l]] k=k (.bool (Ez n e)) [.agg 23 [.int .i64 n,l]]:=
 Qh k (by kernel_rfl) (by kernel_rfl) (AIc n l e)
def KN {α:Type} (p:α→Bool):Nat→List α→Int
 |_,[]=> -1
 |i,x::l=>if p x=true then(i:Int)else KN p (i+1) l
theorem VN {α:Type} (p:α→Bool):∀(l:List α) (i:Nat),0≤KN p i l↔l.any p=true
 |[],i=>by simp[KN]
 |x::l,i=>by
  rw[KN,List.any_cons]
  by_cases h:p x=true
  ·rw[if_pos h,h];simp
  ·rw[if_neg h,VN p l (i+1)];simp[h]
theorem ZA {α:Type} (p:α→Bool) (l:List α) (i:Nat):decide (0≤KN p i l)=l.any p:=by
 rw[Bool.eq_iff_iff,decide_eq_true_eq];exact VN p l i
theorem AFZ (n:Int) (L:V) (es:List E0) (hl:es.length<1000000) (f:Fl):∀(m i:Nat),i+m=es.length→
 MJ (.lst 96 f (es.map IK)) AFY (.int .i64 (es.length:Int)) (.int .i64 (i:Int)) 1 [.agg 23 [.int .i64 n,L]]=
  some (.int .i64 (KN (Ez n) i (es.drop i)),[.agg 23 [.int .i64 n,L]]):=by
 intro m
 induction m with
 |zero=>
  intro i hi
  rw[List.drop_eq_nil_of_le (by omega),N9]
  simp(disch:=first|assumption|omega|(with_reducible rfl)|(simp only[go_sem];done)|(simp only[go_sem];omega)|fail) only[↓reduceIte,↓AO,Nat.reduceAdd,go_sem,KN]
 |succ m ih=>
  intro i hi
  have h:i<es.length:=by omega
  have:=ih (i+1) (by omega)
  rw[List.drop_eq_getElem_cons h,KN,N9]
  by_cases ho:Ez n es[i]=true
  ·rw[if_pos ho]
   simp(disch:=first|assumption|omega|(with_reducible rfl)|(simp only[go_sem];done)|(simp only[go_sem];omega)|fail) only[↓reduceIte,↓AO,Nat.reduceAdd,go_sem,Y9 h,AKm,ho]
  ·rw[if_neg ho,←this]
   simp(disch:=first|assumption|omega|(with_reducible rfl)|(simp only[go_sem];done)|(simp only[go_sem];omega)|fail) only[↓reduceIte,↓AO,Nat.reduceAdd,go_sem,Y9 h,AKm,ho]
theorem AFa (n:Int) (L:V) {es:List E0} (hl:es.length<1000000) (f:Fl):Cl 155 [.lst 96 f (es.map IK),AFY] [.agg 23 [.int .i64 n,L]]=some (.bool (es.any (Ez n)),[.agg 23 [.int .i64 n,L]]):=by
 have h:=fun f=>AFZ n L es hl f es.length 0 (by omega)
 simp only[c0,List.drop_zero]at h
 have ix:∀f,Cl 188 [.lst 96 f (es.map IK),AFY] [.agg 23 [.int .i64 n,L]]=some (.int .i64 (KN (Ez n) 0 es),[.agg 23 [.int .i64 n,L]]):=fun f=>by
  rw[←h f,AEc]
  simp(disch:=first|assumption|omega|(with_reducible rfl)|(simp only[go_sem];done)|(simp only[go_sem];omega)|fail) only[↓reduceIte,↓AO,Nat.reduceAdd,go_sem]
 rw[AEN,←ZA (Ez n) es 0]
 simp(disch:=first|assumption|omega|(with_reducible rfl)|(simp only[go_sem];done)|(simp only[go_sem];omega)|fail) only[↓reduceIte,↓AO,Nat.reduceAdd,go_sem,ix]
def ACC (n:Int) (e:E0) (h:Ez n e=false) (hn:n≤64):Ed.Edg:=⟨e.fr.toNat,e.to.toNat,e.w,by simp[Ez]at h;omega,by simp[Ez]at h;omega⟩
theorem ACD {n:Int} (hn:n≤64):∀es:List E0,es.any (Ez n)=false→∃l:List Ed.Edg,l.map Ed.vEdg=es.map IK∧l.map (fun x=>((x.fr:Int),(x.to:Int)))=es.map fun e=>(e.fr,e.to)
 |[],_=>⟨[],rfl,rfl⟩
 |e::es,h=>by
  rw[List.any_cons,Bool.or_eq_false_iff]at h
  obtain⟨l,h1,h2⟩:=ACD hn es h.2
  have hb:=h.1
  simp only[Ez,Bool.or_eq_false_iff,decide_eq_false_iff_not]at hb
  refine⟨ACC n e h.1 hn::l,?_,?_⟩
  ·rw[List.map_cons,List.map_cons,h1,Ed.vEdg,IK,ACC]
   simp only[]
   rw[show(e.fr.toNat:Int)=e.fr by omega,show(e.to.toNat:Int)=e.to by omega]
  ·rw[List.map_cons,List.map_cons,h2,ACC]
   simp only[]
   rw[show(e.fr.toNat:Int)=e.fr by omega,show(e.to.toNat:Int)=e.to by omega]
abbrev Pz (f:Fl) (l:List Ed.Edg):V:= .lst 96 f (l.map Ed.vEdg)
def Df (l:List Ed.Edg):List Ed.Edg:=Ed.srtL l
theorem Oy (l:List Ed.Edg):(Df l).Perm l:=Ed.srtL_perm l
theorem Qj (l:List Ed.Edg):(Df l).length=l.length:=(Oy l).length_eq
theorem Zz (a:V) (f:Fl) (l:List Ed.Edg):Cl 157 [Pz .sh l] [a]=some (.clo 191 [.ref 1 [] 22],[a,Pz .sh l]):=by
 rw[AEP]
 simp(disch:=first|assumption|omega|(with_reducible rfl)|(simp only[go_sem];done)|(simp only[go_sem];omega)|fail) only[↓reduceIte,↓AO,Nat.reduceAdd,go_sem]
 rfl
theorem AId (l:List Ed.Edg):(l.map Ed.vEdg).all i3=true:=by simp[Ed.vEdg,i3]
theorem Ws (a:V) {l:List Ed.Edg} (hl:l.length≤1000000):Cl 189 [.clo 191 [.ref 1 [] 22]] [a,Pz .sh l]=some (Ed.winM 2 l.length,[a,Pz .sh l,Ed.rowM l.toArray]):=by
 rw[AEd]
 have ap:aps 191 96 [.lst 96 .nil [],.clo 191 [.ref 1 [] 22]] [a,Pz .sh l]=some (Ed.winM 2 l.length,[a,Pz .sh l,Ed.rowM l.toArray]):=by
  simp only[aps,List.getElem?_cons_succ,List.getElem?_cons_zero,AId,List.length_map]
  rw[if_pos (by simp[DV,Nat.ble_eq];omega)]
  simp[Ed.winM,Ed.rowM]
 rw[ap];rfl
theorem Wu (a:V) {l:List Ed.Edg} (hl:l.length≤1000000):Cl 156 [.clo 191 [.ref 1 [] 22],Ed.cm] [a,Pz .sh l]=some (Pz .sh (Df l),[a,Pz .sh l]):=by
 have c:=Ws a hl
 have s:aps 1000158 96 [Ed.winM 2 l.length,Ed.cm] [a,Pz .sh l,Ed.rowM l.toArray]=some (.tup [],[a,Pz .sh l,Ed.rowM (Df l).toArray]):=Ed.sort_aps rfl hl
 have ct:Ad [a,Pz .sh l,Ed.rowM (Df l).toArray] (Ed.winM 2 l.length)=some ((Df l).map Ed.vEdg):=by
  simp[Ad,Ed.winM,rd,V.at,V.items,Ed.rowM]
  rw[←Qj l];exact List.take_of_length_le (by simp)
 have cl:AQ ((Df l).map Ed.vEdg)=true:=Qe (DN (fun _=>rfl) _)
 have nl:AY ((Df l).map Ed.vEdg)=(Df l).map Ed.vEdg:=VJ (DN (fun _=>rfl) _)
 have fin:AV 2 [a,Pz .sh l,Ed.rowM (Df l).toArray] (Ed.winM 2 l.length)=some (Pz .sh (Df l),[a,Pz .sh l]):=by
  have u:(Ed.winM 2 l.length).unmut [a,Pz .sh l,Ed.rowM (Df l).toArray]=Pz .sh (Df l):=by
   rw[Ed.winM]at ct⊢
   simp only[V.unmut,ct,cl,nl,if_true]
  simp only[AV,u];rfl
 rw[AEO]
 refine(AB c _).trans ?_
 refine(AB s _).trans ?_
 exact fin
def VO:Ed.Edg→List Ed.Edg→Bool
 |_,[]=>false
 |x,y::r=>decide (Ed.cmpE x y=0)||VO y r
@[go_sem] theorem ALv (l:List Ed.Edg):I5 (l.map Ed.vEdg)=true:=DN (fun _=>rfl) l
theorem SV {l:List Ed.Edg} {i:Nat} (h:i<l.length):(l.map Ed.vEdg)[i]?=some (Ed.vEdg l[i]):=by simp[h]
theorem AFb (a b:V) {l:List Ed.Edg} (hl:l.length≤1000000):∀(n i:Nat) (hi:i<l.length),i+1+n=l.length→
 JQ (Pz .sh l) (.int .i64 ((i+1:Nat):Int)) [a,b]=some (.int .i64 (if VO l[i] (l.drop (i+1))=true then 51 else 0),[]):=by
 intro n
 induction n with
 |zero=>
  intro i hi hn
  rw[List.drop_eq_nil_of_le (by omega),VO,Ir]
  simp(disch:=first|assumption|omega|(with_reducible rfl)|(simp only[go_sem];done)|(simp only[go_sem];omega)|fail) only[↓reduceIte,↓AO,Nat.reduceAdd,go_sem]
  rfl
 |succ n ih=>
  intro i hi hn
  have h:i+1<l.length:=by omega
  have:=ih (i+1) h (by omega)
  rw[List.drop_eq_getElem_cons h,VO,Ir]
  by_cases hc:Ed.cmpE l[i] l[i+1]=0
  ·rw[decide_eq_true hc,Bool.true_or,if_pos rfl]
   simp(disch:=first|assumption|omega|(with_reducible rfl)|(simp only[go_sem];done)|(simp only[go_sem];omega)|fail) only[↓reduceIte,↓AO,Nat.reduceAdd,go_sem,SV hi,SV h,Ed.compare_am,hc,Nat.add_sub_cancel]
  ·rw[decide_eq_false hc,Bool.false_or,←this]
   simp(disch:=first|assumption|omega|(with_reducible rfl)|(simp only[go_sem];done)|(simp only[go_sem];omega)|fail) only[↓reduceIte,↓AO,Nat.reduceAdd,go_sem,SV hi,SV h,Ed.compare_am,Nat.add_sub_cancel]
def Ji (x:Ed.Edg):Int×Int:=((x.fr:Int),(x.to:Int))
theorem AFc (x y:Ed.Edg):Ed.cmpE x y=0↔Ji x=Ji y:=by
 rw[Ed.cmpE,Ji,Ji,Prod.mk.injEq]
 by_cases h:x.fr=y.fr
 ·rw[if_pos h];omega
 ·rw[if_neg h];omega
theorem VP {x y:Ed.Edg} (h:Ed.ltE y x=false) (hn:Ji x≠Ji y):Ed.ltE x y=true:=by
 rw[Ed.ltE_iff']at h
 rw[Ed.ltE_iff]
 simp only[Ji,ne_eq,Prod.mk.injEq]at hn
 omega
theorem ZB:∀(r:List Ed.Edg) (x:Ed.Edg),(x::r).Pairwise (fun a b=>Ed.ltE b a=false)→(VO x r=false↔((x::r).map Ji).Nodup)
 |[],x,_=>by simp[VO]
 |y::r,x,h=>by
  obtain⟨h1,h2⟩:=List.pairwise_cons.1 h
  have ih:=ZB r y h2
  rw[VO,Bool.or_eq_false_iff,ih,decide_eq_false_iff_not,AFc,List.map_cons (l:=y::r),List.nodup_cons]
  refine and_congr_left fun hd=>⟨fun hn hm=> ?_,fun hm he=>hm (by rw[he];simp)⟩
  obtain⟨z,hz,he⟩:=List.mem_map.1 hm
  rcases List.mem_cons.1 hz with rfl|hz
  ·exact hn he.symm
  ·have a:=VP (h1 y List.mem_cons_self) hn
   have b:=(List.pairwise_cons.1 h2).1 z hz
   rw[Ed.ltE_iff]at a
   rw[Ed.ltE_iff']at b
   simp only[Ji,Prod.mk.injEq]at he
   omega
theorem SX (l:List Ed.Edg):(Df l).Pairwise (fun a b=>Ed.ltE b a=false):=Ed.srtL_sorted l
def I8 (g:Grf):Int:=if 1≤g.n∧g.n≤64∧g.es.length≤512∧g.es.any (Ez g.n)=false then(if(g.es.map fun e=>(e.fr,e.to)).Nodup then 0 else 51)else 50
theorem Z4 {g:Grf} (hl:g.es.length<1000000):Cl 102 [vG .sh g] []=some (.int .i64 (I8 g),[]):=by
 have an:=AFa g.n (.lst 96 .sh (g.es.map IK)) hl .sh
 by_cases h1:g.n<1
 ·rw[I8,if_neg (by omega),JR]
  simp(disch:=first|assumption|omega|(with_reducible rfl)|(simp only[go_sem];done)|(simp only[go_sem];omega)|fail) only[↓reduceIte,↓AO,Nat.reduceAdd,go_sem]
 by_cases h2:64<g.n
 ·rw[I8,if_neg (by omega),JR]
  simp(disch:=first|assumption|omega|(with_reducible rfl)|(simp only[go_sem];done)|(simp only[go_sem];omega)|fail) only[↓reduceIte,↓AO,Nat.reduceAdd,go_sem]
 by_cases h3:512<g.es.length
 ·rw[I8,if_neg (by omega),JR]
  simp(disch:=first|assumption|omega|(with_reducible rfl)|(simp only[go_sem];done)|(simp only[go_sem];omega)|fail) only[↓reduceIte,↓AO,Nat.reduceAdd,go_sem]
 by_cases h4:g.es.any (Ez g.n)=true
 ·rw[I8,if_neg (by rw[h4];simp),JR]
  simp(disch:=first|assumption|omega|(with_reducible rfl)|(simp only[go_sem];done)|(simp only[go_sem];omega)|fail) only[↓reduceIte,↓AO,Nat.reduceAdd,go_sem,an,h4]
 have h4:g.es.any (Ez g.n)=false:=by simpa using h4
 obtain⟨l,l1,l2⟩:=ACD (by omega) g.es h4
 have hlen:l.length=g.es.length:=by have:=congrArg List.length l1;simpa using this
 have v:=Zz (vG .sh g) .sh l
 have st:=Wu (vG .sh g) (l:=l) (by omega)
 have hsl:=Qj l
 have hnd:(g.es.map fun e=>(e.fr,e.to)).Nodup↔((Df l).map Ji).Nodup:=by
  rw[←l2];exact(((Oy l).map Ji).nodup_iff).symm
 have so:=SX l
 rw[I8,if_pos ⟨by omega,by omega,by omega,h4⟩]
 have e:(if(g.es.map fun e=>(e.fr,e.to)).Nodup then(0:Int)else 51)=(if((Df l).map Ji).Nodup then(0:Int)else 51):=by
  by_cases hh:(g.es.map fun e=>(e.fr,e.to)).Nodup
  ·rw[if_pos hh,if_pos (hnd.1 hh)]
  ·rw[if_neg hh,if_neg (fun k=>hh (hnd.2 k))]
 rw[e]
 have rest:JQ (Pz .sh (Df l)) (.int .i64 1) [vG .sh g,Pz .sh l]=some (.int .i64 (if((Df l).map Ji).Nodup then(0:Int)else 51),[]):=by
  cases hs:Df l with
  |nil=>
   rw[Ir]
   simp(disch:=first|assumption|omega|(with_reducible rfl)|(simp only[go_sem];done)|(simp only[go_sem];omega)|fail) only[↓reduceIte,↓AO,Nat.reduceAdd,go_sem]
   rfl
  |cons x r=>
   have:=AFb (vG .sh g) (Pz .sh l) (l:=x::r) (by rw[←hs];omega) r.length 0 (by simp) (by simp;omega)
   simp only[Nat.zero_add,c1,List.getElem_cons_zero,List.drop_succ_cons,List.drop_zero]at this
   rw[this]
   rw[hs]at so
   have ai:=ZB r x so
   by_cases hh:((x::r).map Ji).Nodup
   ·rw[if_pos hh,if_neg (by rw[ai.2 hh];simp)]
   ·rw[if_neg hh,if_pos (by cases ha:VO x r with
     |true=>rfl
     |false=>exact absurd (ai.1 ha) hh)]
 have l3:l.length≤512:=by omega
 simp only[vG,←l1]at an v st rest⊢
 rw[JR]
 generalize Df l=s at*
 simp(disch:=first|assumption|omega|(with_reducible rfl)|(simp only[go_sem];done)|(simp only[go_sem];omega)|fail) only[↓reduceIte,↓AO,Nat.reduceAdd,go_sem,an,h4,v,st,rest]
end
section
open Go AM
def I64 (n:Int):Prop:= -9223372036854775808≤n∧n<9223372036854775808
end
section
open Go AM
structure Vtx where
 id:Int
 val:Int
 act:Bool
 has:Bool
 inn:Int
 deriving DecidableEq
def VOk (x:Vtx):Prop:=I64 x.id∧I64 x.val∧I64 x.inn
abbrev tVx:TypeId:=85
def BG (x:Vtx):V:= .agg tVx [.int .i64 x.id,.int .i64 x.val,.bool x.act,.bool x.has,.int .i64 x.inn]
@[go_sem] theorem AIe (x:Vtx):(BG x).pl=true:=(rfl)
@[go_sem] theorem SY (l:List Vtx):I5 (l.map BG)=true:=DN (fun _=>rfl) l
@[go_sem] theorem ZC (x:Vtx):CG tVx (BG x)=true:=Ou ..
@[go_sem] theorem ALw (l:List Vtx):(l.map BG).all (CG tVx)=true:=all_map (fun _=>Ou ..) l
theorem AG0 {l:List Vtx} {i:Nat} (h:i<l.length):(l.map BG)[i]?=some (BG l[i]):=by simp[h]
end
section
open Go AM
abbrev iv (n:Nat):V:= .int .i64 (n:Int)
theorem AG1 {B:Type} {h:List V} {x:Int} (h0:0≤x) (h1:x<9223372036854775808) (K:V→Option B):(conv P h 3 132 (.int .i64 x)).bind K=K (.int .u64 (x.toNat:Int)):=by
 refine(AB (CV ES ..) _).trans ?_
 rw[wrap_u64 (by omega) (by omega)]
 congr 2;omega
end
section
open Go AM
theorem AKn (a b:List UInt8):Be P 245 2 [(0,bL .own a),(1,bL .own b)]=some (.lst 172 .own (parts [(.sh,a),(.sh,b)])):=by
 simp[Be,Oa,BL,tyB,cp,ABb,bL,List.replicate,AQ,V.clean,Ci,AY,V.norm,V.weak,parts,part,Dc,Bd]
theorem AKo (f g:Fl) (a b:List UInt8):flat [(f,a),(g,b)]=a++b:=by simp[flat]
theorem AFd {s:List UInt8} (hs:s.length<2147000000):Cl 177 [.str s] []=some (BH (TV (0::s)),[]):=by
 rw[AEV,YO,YP,Wl]
 refine(AB (U6 0 (by omega)) _).trans<|(AB2 (by omega) _).trans<|(AB (AKn _ _) _).trans ?_
 obtain⟨f',L',e1,e2,e3⟩:=LW ([]++[BH (List.replicate 32 0)]) .own [(.sh,[UInt8.ofNat 0]),(.sh,s)]
 have er:AA ([]++[BH (List.replicate 32 0)]) [.lst 172 .own (parts [(.sh,[UInt8.ofNat 0]),(.sh,s)])]=[.lst 172 f' (parts L')]:=by simp only[AA,e1]
 rw[er]
 rw[AKo]at e2
 refine(AB (U8 L' (by rw[e3];simp) f' (by rw[e2];simp;omega) (by rw[e2];simp)) _).trans ?_
 refine(AB (Dp (P:=P) (h:=[]++[BH (List.replicate 32 0)]) (id:=0) rfl (Og _) (Oh _ _)) _).trans ?_
 refine(AB (CS (h:=[BH (TV (flat L'))]) (id:=0) (v:=BH (TV (flat L'))) (EN rfl)) _).trans ?_
 rw[Je,e2];rfl
theorem Si {B:Type} {a b:List UInt8} (h:a.length+b.length≤4611686018427387904) (K:V→Option B):(AL .add (.str a) (.str b)).bind K=K (.str (a++b)):=AB (QR a b h) K
theorem AFe {s:List UInt8} (hs:s.length<2147000000):Cl 148 [.str s] []=some (.str (TV (0::s)),[]):=by
 rw[AEI,Xy,Xz]
 refine(Si (by simp;omega) _).trans ?_
 refine(AB (Fe (s:=[0]++s) (by simp;omega)) _).trans ?_
 rw[JZ];rfl
theorem AIf (l:List UInt8) (hl:l.length=32) (z:List UInt8):∀(n i:Nat) (w:List UInt8),i+n=32→w.length=32→w.take i=l.take i→
 L6 (.str l) (.ref 0 [] 66) (.ref 1 [] 66) (iv i) [BH z,BH w]=some (BH l,[]):=by
 intro n
 induction n with
 |zero=>
  intro i w hi hw ht
  rw[NM,Rj]
  refine(GR (by omega) _).trans ?_
  rw[BR,BR,X7]
  have e:w=l:=by
   rw[List.take_of_length_le (by omega),List.take_of_length_le (by omega)]at ht;exact ht
  subst e
  refine(AB (CS (v:=BH w) (EN rfl)) _).trans ?_
  refine(AB (Dp (w:=BH z) rfl (Og _) (Oh _ _)) _).trans ?_
  refine(AB (CS (v:=BH w) (EN rfl)) _).trans ?_
  exact Je _ _ _
 |succ n ih=>
  intro i w hi hw ht
  rw[NM,Rj]
  refine(Fa (by omega) _).trans ?_
  rw[BQ]
  refine(AB (show lenV P 9 (.str l)=some (.int .i64 (l.length:Int))by simp[lenV,OZ]) _).trans ?_
  refine(Fa (by omega) _).trans ?_
  rw[BQ,X5]
  have hg:l[i]?=some l[i]:=by simp
  refine(AB (AEo OZ hg) _).trans<|(AB (AJu (by omega)) _).trans ?_
  refine(AB (AJv (l:=w) rfl (by omega) (UInt8.toNat_lt _)) _).trans ?_
  rw[X6]
  refine(FU (b:=1) (by omega) _).trans ?_
  refine ih (i+1) (w.set i (UInt8.ofNat l[i].toNat)) (by omega) (by simp[hw]) ?_
  rw[VG (by omega),ht,List.take_add_one,hg]
  simp
theorem AIg {l:List UInt8} (hl:l.length=32):Cl 150 [.str l] []=some (BH l,[]):=by
 rw[AEK,X0,X3,Wl]
 refine(AB (show bld P 66 []=some (BH (List.replicate 32 0))by rw[←Wl];simp[bld,AEm,BL,AGh]) _).trans ?_
 refine(AB (Dp (P:=P) (h:=[]++[BH (List.replicate 32 0)]++[BH (List.replicate 32 0)]) (id:=1) rfl (Og _) (Oh _ _)) _).trans ?_
 rw[X4]
 exact AIf l hl _ 32 0 _ rfl rfl rfl
end
section
open Go AM
theorem AIh (a b c:List UInt8) (id:Nat) (h:List V):Be P 245 3 [(0,bL .own a),(1,bL .own b),(2,.win id [] 0 32 5)]=some (.lst 172 .lent [bL .sh a,bL .sh b,.win id [] 0 32 5]):=by
 simp[Be,Oa,BL,tyB,cp,ABb,bL,List.replicate,AQ,V.clean,Ci,AY,V.norm,V.weak,Dc,Bd]
theorem AMx {id:Nat}:Kw P 66 (.ref id [] 66) none none none=some (.win id [] 0 32 5):=by
 simp[Kw,AEm,BP]
theorem Sj {h:List V} {id:Nat} {c:List UInt8} (hh:h[id]?=some (BH c)) (hc:c.length=32):V.reify h (.win id [] 0 32 5)=bL .lent c:=by
 have:Ad h (.win id [] 0 32 5)=some (bytesOf c):=by
  simp[Ad,rd,hh,V.at,V.items,BH]
  rw[List.take_of_length_le (by rw[Aj];omega)]
 simp only[V.reify,this,CX,Eb,if_true,bL]
def Qk (n:Nat) (t:List UInt8):List UInt8:=TV ([3]++BV n++t)
theorem AFf {n:Nat} {t:List UInt8} (hn:n<1000000000) (ht:t.length=32):Cl 146 [iv n,BH t] []=some (BH (Qk n t),[]):=by
 have c1:(Bd P 66 (BH t)&&V.under (List.length ([]:List V)) (BH t))=true:=by rw[Og,Oh];rfl
 have nb:=A7 10 n
 rw[AEH,Xu,if_pos c1,Wl,Xv]
 refine(AB (Qc _) _).trans ?_
 rw[Xw]
 refine(AG1 (by omega) (by omega) _).trans ?_
 have e1:AY [ET (([]++[BH t])++[BH (List.replicate 32 0)]:List V).length,V.int .u64 ((n:Int).toNat:Int)]=[ET 2,V.int .u64 (n:Int)]:=rfl
 rw[e1]
 refine(AB (KJ (id:=2) (h:=(([]++[BH t])++[BH (List.replicate 32 0)])++[Ba .nil []]) rfl (Or.inr rfl) (by omega) (by simp)) _).trans ?_
 rw[Xx]
 have eh:((([]++[BH t])++[BH (List.replicate 32 0)])++[Ba .nil []]:List V).set 2 (Ba .own ([]++BV n))=[BH t,BH (List.replicate 32 0),Ba .own (BV n)]:=rfl
 rw[eh]
 refine(AB (U6 3 (by omega)) _).trans ?_
 refine(AB (Oo (id:=2) (h:=[BH t,BH (List.replicate 32 0),Ba .own (BV n)]) rfl) _).trans ?_
 refine(AB2 (by rw[BV];omega) _).trans<|(AB AMx _).trans<|(AB (AIh [UInt8.ofNat 3] (BV n) [] 0 []) _).trans ?_
 have er:AA [BH t,BH (List.replicate 32 0),Ba .own (BV n)] [.lst 172 .lent [bL .sh [UInt8.ofNat 3],bL .sh (BV n),.win 0 [] 0 32 5]]=[.lst 172 .lent (parts [(.sh,[UInt8.ofNat 3]),(.sh,BV n),(.lent,t)])]:=by
  have w:=Sj (h:=[BH t,BH (List.replicate 32 0),Ba .own (BV n)]) (id:=0) (c:=t) rfl ht
  show[V.lst 172 .lent [V.reify _ (bL .sh [UInt8.ofNat 3]),V.reify _ (bL .sh (BV n)),V.reify [BH t,BH (List.replicate 32 0),Ba .own (BV n)] (.win 0 [] 0 32 5)]]=_
  rw[w];rfl
 rw[er]
 have ef:flat [(.sh,[UInt8.ofNat 3]),(.sh,BV n),(.lent,t)]=[3]++BV n++t:=by simp[flat]
 refine(AB (U8 _ (by simp) .lent (by rw[ef];simp only[List.length_append,BV];simp;omega) (by rw[ef];simp)) _).trans ?_
 rw[ef]
 refine(AB (Dp (P:=P) (h:=[BH t,BH (List.replicate 32 0),Ba .own (BV n)]) (id:=1) rfl (Og _) (Oh _ _)) _).trans ?_
 refine(AB (CS (h:=[BH t,BH (TV ([3]++BV n++t)),Ba .own (BV n)]) (id:=1) (v:=BH (TV ([3]++BV n++t))) (EN rfl)) _).trans ?_
 exact Je _ _ _
theorem AIi:∀(k n:Nat),n<128^k→0<k→k≤10→n<18446744073709551616→Cl 72 [.int .u64 (n:Int)] []=some (.str (Ia k n),[]):=by
 intro k
 induction k with
 |zero=>intro n _ h _ _;omega
 |succ k ih=>
  intro n hn _ hk h64
  have cv:∀(l:List UInt8) (K:V→Option (V×List V)),(conv P [] 172 9 (bL .own l)).bind K=K (.str l):=fun l K=>AB (by simp[conv,OZ,F6,LH,bL,Ad,I4]) K
  rw[AHt,ABS,ABT,Ia]
  by_cases hb:n<128
  ·refine(Fa (by omega) _).trans ?_
   rw[BQ,ABU,if_pos hb]
   refine(cv8 _).trans ?_
   rw[Nat.mod_eq_of_lt (by omega)]
   refine(AB (U6 n (by omega)) _).trans<|(cv _ _).trans ?_
   rw[JZ];rfl
  ·refine(GR (by omega) _).trans ?_
   rw[BR,ABV,if_neg hb]
   refine(Oj (b:=128) (by decide) _).trans<|(ER (b:=128) (by omega) _).trans<|(cv8 _).trans ?_
   rw[Nat.mod_eq_of_lt (show n%128+128<256 by omega)]
   refine(AB (U6 _ (by omega)) _).trans<|(cv _ _).trans<|(LX (b:=128) (by decide) h64 _).trans ?_
   have k0:0<k:=by
    rcases Nat.eq_zero_or_pos k with h|h
    ·subst h;simp at hn;omega
    ·exact h
   refine(AB (ih (n/128) (by rw[Nat.pow_succ]at hn;omega) k0 (by omega) (by omega)) _).trans ?_
   have:=A7 k (n/128)
   refine(Si (by simp;omega) _).trans ?_
   rw[JZ];rfl
theorem H6 {n:Nat} (h:n<18446744073709551616):Cl 72 [.int .u64 (n:Int)] []=some (.str (BV n),[]):=AIi 10 n (Nat.lt_of_lt_of_le h (by decide)) (by omega) (by omega) h
theorem Wv {n:Nat} {t:List UInt8} (hn:n<1000000000) (ht:t.length=32):Cl 91 [iv n,.str t] []=some (BH (Qk n t),[]):=by
 have nb:=A7 10 n
 rw[AHy,ABW,ABX,Wl]
 refine(AG1 (by omega) (by omega) _).trans ?_
 refine(AB (H6 (n:=n) (by omega)) _).trans ?_
 refine(Si (by rw[BV];simp;omega) _).trans<|(Si (by simp only[List.length_append,BV];simp;omega) _).trans ?_
 refine(AB (Fe (s:=[3]++BV n++t) (by simp only[List.length_append,BV];simp;omega)) _).trans ?_
 refine(AB (AIg (Jd _)) _).trans ?_
 refine(AB (Dp (P:=P) (h:=[]++[BH (List.replicate 32 0)]) (id:=0) rfl (Og _) (Oh _ _)) _).trans ?_
 refine(AB (CS (h:=[BH (Qk n t)]) (id:=0) (v:=BH (Qk n t)) (EN rfl)) _).trans ?_
 exact Je _ _ _
end
section
open Go AM
@[go_sem] theorem ACF (l:List UInt8):(BH l).pl=true:=Qd l
@[go_sem] theorem Sm (l:List UInt8):CG 65 (BH l)=true:=Ou ..
theorem I9:V.agg 65 (List.replicate 32 (V.int .u8 0))=BH (List.replicate 32 0):=rfl
@[go_sem] theorem ACG (l:List (List UInt8)):I5 (l.map V.str)=true:=DN (fun _=>rfl) l
@[go_sem] theorem AKp (l:List (List UInt8)):(l.map V.str).all Xl=true:=all_map (fun _=>rfl) l
@[go_sem] theorem AMy (l:List UInt8):I5 (bytesOf l)=true:=Qd l
def Jj (n:Nat):Nat→Nat→Nat
 |0,k=>k
 |f+1,k=>if 2*k<n then Jj n f (2*k)else k
def Ic (n:Nat):Nat:=Jj n 62 1
theorem VQ (n:Nat):∀(f k:Nat),0<k→k<n→0<Jj n f k∧Jj n f k<n
 |0,k,h,h2=>⟨h,h2⟩
 |f+1,k,h,h2=>by
  rw[Jj];split
  ·exact VQ n f (2*k) (by omega) (by omega)
  ·exact⟨h,h2⟩
theorem AKq {n k f:Nat} (h:n<k*2^(f+1)):n<2*k*2^f:=by
 rw[Nat.pow_succ]at h
 have e:k*(2^f*2)=2*k*2^f:=by rw[Nat.mul_comm 2 k,Nat.mul_assoc,Nat.mul_comm (2^f)]
 omega
theorem AFg (n:Nat) (hn:n<2^61):∀(f k:Nat),0<k→k≤n→n<k*2^f→Ls (iv n) (iv k)=some (iv (Jj n f k),[]):=by
 intro f
 induction f with
 |zero=>intro k h h2 h3;omega
 |succ f ih=>
  intro k h h2 h3
  rw[WV,Jj]
  have h2':(2:Int)*(k:Int)=((2*k:Nat):Int):=by omega
  by_cases hk:2*k<n
  ·rw[if_pos hk]
   refine(AB (AKY (by omega) (by omega)) _).trans<|(Fa (by omega) _).trans ?_
   rw[BQ]
   refine(AB (AB5 (by omega) (by omega)) _).trans ?_
   rw[show(k:Int)*2=((2*k:Nat):Int)by omega]
   exact ih (2*k) (by omega) (by omega) (AKq h3)
  ·rw[if_neg hk]
   refine(AB (AKY (by omega) (by omega)) _).trans<|(GR (by omega) _).trans ?_
   rfl
theorem AFh {n:Nat} (h2:2≤n) (hn:n<2^61):Cl 132 [iv n] []=some (iv (Ic n),[]):=by
 rw[AEE]
 refine(GR (by omega) _).trans ?_
 rw[BR]
 exact AFg n hn 62 1 (by omega) (by omega) (by omega)
theorem Wx (n:Nat) (hn:n<2^61):∀(f k:Nat),0<k→k≤n→n<k*2^f→Lu (iv n) (iv k)=some (iv (Jj n f k),[]):=by
 intro f
 induction f with
 |zero=>intro k h h2 h3;omega
 |succ f ih=>
  intro k h h2 h3
  rw[WW,Jj]
  have e:(2:Int)*(k:Int)=((2*k:Nat):Int):=by omega
  refine(AB (AB5 (by omega) (by omega)) _).trans ?_
  rw[e]
  by_cases hk:2*k<n
  ·rw[if_pos hk]
   refine(Fa (by omega) _).trans ?_
   rw[BQ]
   refine(AB (AB5 (by omega) (by omega)) _).trans ?_
   rw[e]
   exact ih (2*k) (by omega) (by omega) (AKq h3)
  ·rw[if_neg hk]
   refine(GR (by omega) _).trans ?_
   rfl
theorem Wy {n:Nat} (h2:1≤n) (hn:n<2^61):Cl 134 [iv n] []=some (iv (Ic n),[]):=by
 rw[AEF]
 exact Wx n hn 62 1 (by omega) (by omega) (by omega)
def ACH (a b:List UInt8):List UInt8:=TV ([1]++a++b)
theorem AFi {a b:List UInt8} (ha:a.length=32) (hb:b.length=32):Cl 178 [BH a,BH b] []=some (BH (ACH a b),[]):=by
 have er:V.reify [BH a,BH b,BH (List.replicate 32 0)] (.lst 172 .lent [bL .sh [1],.win 0 [] 0 32 5,.win 1 [] 0 32 5])= .lst 172 .lent (parts [(.sh,[1]),(.lent,a),(.lent,b)]):=by
  have w:=Sj (h:=[BH a,BH b,BH (List.replicate 32 0)]) (id:=0) (c:=a) rfl ha
  have w':=Sj (h:=[BH a,BH b,BH (List.replicate 32 0)]) (id:=1) (c:=b) rfl hb
  show V.lst 172 .lent [V.reify _ (bL .sh [1]),V.reify [BH a,BH b,BH (List.replicate 32 0)] (.win 0 [] 0 32 5),V.reify [BH a,BH b,BH (List.replicate 32 0)] (.win 1 [] 0 32 5)]=_
  rw[w,w'];rfl
 have ef:flat [(.sh,[1]),(.lent,a),(.lent,b)]=[1]++a++b:=by simp[flat]
 rw[AEW,I9]
 simp(disch:=first|assumption|omega|(with_reducible rfl)|(simp only[go_sem];done)|(simp only[go_sem];omega)|fail) only[↓reduceIte,↓AO,Nat.reduceAdd,go_sem]
 refine(AB (show Tq 172 true (some [.lst 5 .sh [.int .u8 1],(V.win 0 [] 0 32 5).weak,(V.win 1 [] 0 32 5).weak])=some (.lst 172 .lent [bL .sh [1],.win 0 [] 0 32 5,.win 1 [] 0 32 5])from rfl) _).trans ?_
 rw[er]
 refine(AB (U8 _ (by simp) .lent (by rw[ef];simp;omega) (by rw[ef];simp)) _).trans ?_
 rw[ef]
 simp(disch:=first|assumption|omega|(with_reducible rfl)|(simp only[go_sem];done)|(simp only[go_sem];omega)|fail) only[↓reduceIte,↓AO,Nat.reduceAdd,go_sem]
 rfl
theorem W9 {a b:List UInt8} (ha:a.length=32) (hb:b.length=32):Cl 149 [.str a,.str b] []=some (.str (ACH a b),[]):=by
 rw[AEJ]
 simp(disch:=first|assumption|omega|(with_reducible rfl)|(simp only[go_sem];done)|(simp only[go_sem];omega)|fail) only[↓reduceIte,↓AO,Nat.reduceAdd,go_sem,Fe]
 rfl
def Oz:Nat→List (List UInt8)→List UInt8
 |0,_=>TV [2]
 |f+1,l=>if l.length=0 then TV [2]else if l.length=1 then TV (0::l.getD 0 [])else ACH (Oz f (l.take (Ic l.length))) (Oz f (l.drop (Ic l.length)))
theorem Ff:∀(f:Nat) (l:List (List UInt8)),(Oz f l).length=32
 |0,_=>Jd _
 |f+1,l=>by rw[Oz];split;·exact Jd _
            split<;>exact Jd _
def Short (l:List (List UInt8)):Prop:=∀s∈l,s.length<2147000000
theorem Short.take {l:List (List UInt8)} (h:Short l) (n:Nat):Short (l.take n):=fun s hs=>h s (List.mem_of_mem_take hs)
theorem Short.drop {l:List (List UInt8)} (h:Short l) (n:Nat):Short (l.drop n):=fun s hs=>h s (List.mem_of_mem_drop hs)
theorem of0 {x:Nat} (hx:x<256) {g:Fl}:Cl 176 [.lst 172 g [.lst 5 .sh [.int .u8 (x:Int)]]] []=some (BH (TV [UInt8.ofNat x]),[]):=by
 have e:[V.lst 5 .sh [.int .u8 (x:Int)]]=parts [(.sh,[UInt8.ofNat x])]:=by
  simp only[parts,part,List.map_cons,List.map_nil,bL,bytesOf]
  rw[UInt8.toNat_ofNat',Nat.mod_eq_of_lt (by omega)]
 rw[e,U8 _ (by simp) g (by simp[flat]) (by simp[flat])]
 simp[flat]
theorem VS {n:Nat} (h:2≤n):0<Ic n∧Ic n<n:=VQ n 62 1 (by omega) (by omega)
theorem AIj:∀(f:Nat) (l:List (List UInt8)) (g:Fl),l.length≤f→f<2000000000→Short l→Cl 133 [.lst 9 g (l.map V.str)] []=some (BH (Oz f l),[]):=by
 intro f
 induction f with
 |zero=>
  intro l g hl _ _
  have:l=[]:=List.eq_nil_of_length_eq_zero (by omega)
  subst this
  rw[Xr,I9,Oz]
  simp(disch:=first|assumption|omega|(with_reducible rfl)|(simp only[go_sem];done)|(simp only[go_sem];omega)|fail) only[↓reduceIte,↓AO,Nat.reduceAdd,go_sem,List.map_nil]
  refine(AB (of0 (x:=2) (by omega)) _).trans ?_
  simp(disch:=first|assumption|omega|(with_reducible rfl)|(simp only[go_sem];done)|(simp only[go_sem];omega)|fail) only[↓reduceIte,↓AO,Nat.reduceAdd,go_sem]
  rfl
 |succ f ih=>
  intro l g hl hf hs
  rw[Xr,I9,Oz]
  by_cases h0:l.length=0
  ·simp(disch:=first|assumption|omega|(with_reducible rfl)|(simp only[go_sem];done)|(simp only[go_sem];omega)|fail) only[↓reduceIte,↓AO,Nat.reduceAdd,go_sem,h0]
   refine(AB (of0 (x:=2) (by omega)) _).trans ?_
   simp(disch:=first|assumption|omega|(with_reducible rfl)|(simp only[go_sem];done)|(simp only[go_sem];omega)|fail) only[↓reduceIte,↓AO,Nat.reduceAdd,go_sem]
   rfl
  by_cases h1:l.length=1
  ·have hg:l[0]?=some (l.getD 0 []):=by rw[List.getD_eq_getElem?_getD,List.getElem?_eq_getElem (by omega)];rfl
   have hm:(l.getD 0 []).length<2147000000:=hs _ (List.mem_of_getElem? hg)
   simp(disch:=first|assumption|omega|(with_reducible rfl)|(simp only[go_sem];done)|(simp only[go_sem];omega)|fail) only[↓reduceIte,↓AO,Nat.reduceAdd,go_sem,h0,h1,List.getElem?_map,hg,AFd hm]
   rfl
  have hh:=VS (n:=l.length) (by omega)
  have hx:∀g,Cl 133 [.lst 9 g ((l.take (Ic l.length)).map V.str)] []=_:=fun g=>ih _ g (by simp;omega) (by omega) (hs.take _)
  have hy:∀g,Cl 133 [.lst 9 g ((l.drop (Ic l.length)).map V.str)] []=_:=fun g=>ih _ g (by simp;omega) (by omega) (hs.drop _)
  simp(disch:=first|assumption|omega|(with_reducible rfl)|(simp only[go_sem];done)|(simp only[go_sem];omega)|fail) only[↓reduceIte,↓AO,Nat.reduceAdd,go_sem,h0,h1,AFh (n:=l.length) (by omega) (by omega),←List.map_take,←List.map_drop,hx,hy,AFi (Ff _ _) (Ff _ _)]
def ZE (l:List (List UInt8)):List UInt8:=Qk l.length (Oz l.length l)
theorem Z5 (n:Nat) (t:List UInt8):(Qk n t).length=32:=Jd _
theorem AFj {g:Fl} {l:List (List UInt8)} (hl:l.length<1000000000) (hs:Short l):Cl 88 [.lst 9 g (l.map V.str)] []=some (BH (ZE l),[]):=by
 have h:=fun g=>AIj l.length l g (Nat.le_refl _) (by omega) hs
 rw[AHx,I9]
 simp(disch:=first|assumption|omega|(with_reducible rfl)|(simp only[go_sem];done)|(simp only[go_sem];omega)|fail) only[↓reduceIte,↓AO,Nat.reduceAdd,go_sem,h,AFf (n:=l.length) hl (Ff _ _)]
 rfl
theorem Z7:∀(f:Nat) (l:List (List UInt8)) (g:Fl),l.length≤f→f<2000000000→Short l→Cl 142 [.lst 9 g (l.map V.str)] []=some (.str (Oz f l),[]):=by
 intro f
 induction f with
 |zero=>
  intro l g hl _ _
  have:l=[]:=List.eq_nil_of_length_eq_zero (by omega)
  subst this
  rw[Xt,Oz]
  simp(disch:=first|assumption|omega|(with_reducible rfl)|(simp only[go_sem];done)|(simp only[go_sem];omega)|fail) only[↓reduceIte,↓AO,Nat.reduceAdd,go_sem,List.map_nil,Fe]
 |succ f ih=>
  intro l g hl hf hs
  rw[Xt,Oz]
  by_cases h0:l.length=0
  ·simp(disch:=first|assumption|omega|(with_reducible rfl)|(simp only[go_sem];done)|(simp only[go_sem];omega)|fail) only[↓reduceIte,↓AO,Nat.reduceAdd,go_sem,h0,Fe]
  by_cases h1:l.length=1
  ·have hg:l[0]?=some (l.getD 0 []):=by rw[List.getD_eq_getElem?_getD,List.getElem?_eq_getElem (by omega)];rfl
   have hm:(l.getD 0 []).length<2147000000:=hs _ (List.mem_of_getElem? hg)
   simp(disch:=first|assumption|omega|(with_reducible rfl)|(simp only[go_sem];done)|(simp only[go_sem];omega)|fail) only[↓reduceIte,↓AO,Nat.reduceAdd,go_sem,h0,h1,List.getElem?_map,hg,AFe hm]
   rfl
  have hh:=VS (n:=l.length) (by omega)
  have hx:∀g,Cl 142 [.lst 9 g ((l.take (Ic l.length)).map V.str)] []=_:=fun g=>ih _ g (by simp;omega) (by omega) (hs.take _)
  have hy:∀g,Cl 142 [.lst 9 g ((l.drop (Ic l.length)).map V.str)] []=_:=fun g=>ih _ g (by simp;omega) (by omega) (hs.drop _)
  simp(disch:=first|assumption|omega|(with_reducible rfl)|(simp only[go_sem];done)|(simp only[go_sem];omega)|fail) only[↓reduceIte,↓AO,Nat.reduceAdd,go_sem,h0,h1,Wy (n:=l.length) (by omega) (by omega),←List.map_take,←List.map_drop,hx,hy,W9 (Ff _ _) (Ff _ _)]
theorem VT {g:Fl} {l:List (List UInt8)} (hl:l.length<1000000000) (hs:Short l):Cl 84 [.lst 9 g (l.map V.str)] []=some (BH (ZE l),[]):=by
 have h:=fun g=>Z7 l.length l g (Nat.le_refl _) (by omega) hs
 rw[AHv,I9]
 simp(disch:=first|assumption|omega|(with_reducible rfl)|(simp only[go_sem];done)|(simp only[go_sem];omega)|fail) only[↓reduceIte,↓AO,Nat.reduceAdd,go_sem,h,Wv (n:=l.length) hl (Ff _ _)]
 rfl
end
section
open Go AM
def z32:List UInt8:=List.replicate 32 0
theorem AFk:V.agg 65 (List.replicate 32 (V.int .u8 0))=BH z32:=rfl
theorem Sr:∀a b:List UInt8,a.length=b.length→J9 (bytesOf a) (bytesOf b)=some (decide (a=b))
 |[],[],_=>rfl
 |x::a,y::b,h=>by
  have e:∀(z:UInt8) (l:List UInt8),bytesOf (z::l)= .int .u8 (z.toNat:Int)::bytesOf l:=fun _ _=>rfl
  rw[e,e]
  simp only[J9,JL,if_true,Option.bind_some]
  by_cases hxy:x=y
  ·subst hxy
   simp[Sr a b (by simpa using h)]
  ·have:¬(x.toNat:Int)=(y.toNat:Int):=fun h=>hxy (UInt8.toNat_inj.1 (by omega))
   simp[this,hxy]
 |[],_::_,h=>by simp at h
 |_::_,[],h=>by simp at h
@[go_sem] theorem eqA {a b:List UInt8} (ha:a.length=32) (hb:b.length=32):Xn (CG 65) .eql (BH a) (BH b)=some (.bool (decide (a=b))):=by
  have h:JL (BH a) (BH b)=some (decide (a=b)):=by simp only[BH,JL,if_true,Sr a b (by omega)]
  simp only[Xn,Sm,Bool.and_self,if_true,h,Option.map_some]
@[go_sem] theorem neA {a b:List UInt8} (ha:a.length=32) (hb:b.length=32):Xn (CG 65) .neq (BH a) (BH b)=some (.bool (!decide (a=b))):=by
  have h:JL (BH a) (BH b)=some (decide (a=b)):=by simp only[BH,JL,if_true,Sr a b (by omega)]
  simp only[Xn,Sm,Bool.and_self,if_true,h,Option.map_some]
@[go_sem] theorem AKs (l:List (List UInt8)):I5 (l.map BH)=true:=DN ACF l
@[go_sem] theorem AKt (l:List (List UInt8)):(l.map BH).all (CG 65)=true:=all_map Sm l
theorem ACI (a:V):Cl 68 [] [a]=some (ET 1,[a,Ba .nil []]):=Qc [a]
theorem O0 {a:V} {f:Fl} {l:List UInt8} {x:Int} (hf:OK f) (h0:0≤x) (h1:x<18446744073709551616) (hl:l.length≤2000000000):Cl 69 [ET 1,.int .u64 x] [a,Ba f l]=some (.tup [],[a,Ba .own (l++BV x.toNat)]):=by
 have:=KJ (h:=[a,Ba f l]) (id:=1) (n:=x.toNat) rfl hf (by omega) (by omega)
 rw[show((x.toNat:Nat):Int)=x by omega]at this
 exact this
theorem Z8 {a:V} {f:Fl} {l:List UInt8}:Cl 71 [ET 1] [a,Ba f l]=some (.str l,[a,Ba f l]):=Oo (h:=[a,Ba f l]) (id:=1) rfl
@[go_sem] theorem AJV (n:Nat):V.norm (ET n)=ET n:=(rfl)
@[go_sem] theorem AIk {n m:Nat} (h:n<m):V.under m (ET n)=true:=Qg h ..
theorem Sv:OK .own:=Or.inl rfl
theorem AIl:OK .nil:=Or.inr rfl
@[go_sem] theorem AKu (n:Nat):V.norm (rIn n)=rIn n:=(rfl)
@[go_sem] theorem AJW {n m:Nat} (h:n<m):V.under m (rIn n)=true:=Qg h ..
@[go_sem] theorem AMz (s:List UInt8) (e:Nat):(vIn s e).pl=true:=(rfl)
section
variable {a b c:V} {s:List UInt8} {e:Nat}
end
@[go_sem] theorem AOC {s:List UInt8} (h:1≤s.length) (k:IntKind):slT (.str s) (some (.int k 1)) none=some (.str (s.drop 1)):=AIZ h k
end
section
open Go AM
def Sz:List (List UInt8):=[[109,97,120],[108,97,98,101,108],[115,115,115,112],[98,102,115],[100,101,103,114,101,101],[114,97,110,107],[119,97,108,107,115]]
def EO (t:List UInt8):Bool:=Sz.any fun s=>decide (t=s)
theorem AFl (t:List UInt8) {ls:List (List UInt8)} (hl:ls.length<1000000) (f:Fl):∀(m i:Nat),i+m=ls.length→
 MK (.lst 9 f (ls.map .str)) (.str t) (.int .i64 (ls.length:Int)) (.int .i64 (i:Int))=some (.int .i64 (KN (fun s=>decide (t=s)) i (ls.drop i)),[]):=by
 intro m
 induction m with
 |zero=>
  intro i hi
  rw[List.drop_eq_nil_of_le (by omega),OA]
  simp(disch:=first|assumption|omega|(with_reducible rfl)|(simp only[go_sem];done)|(simp only[go_sem];omega)|fail) only[↓reduceIte,↓AO,Nat.reduceAdd,go_sem,KN]
 |succ m ih=>
  intro i hi
  have h:i<ls.length:=by omega
  have:=ih (i+1) (by omega)
  have ha:(ls.map V.str)[i]?=some (.str ls[i]):=by simp[h]
  rw[List.drop_eq_getElem_cons h,KN,OA]
  by_cases ho:t=ls[i]
  ·rw[if_pos (decide_eq_true ho)]
   simp(disch:=first|assumption|omega|(with_reducible rfl)|(simp only[go_sem];done)|(simp only[go_sem];omega)|fail) only[↓reduceIte,↓AO,Nat.reduceAdd,go_sem,ha]
  ·rw[if_neg (by simp[ho]),←this]
   simp(disch:=first|assumption|omega|(with_reducible rfl)|(simp only[go_sem];done)|(simp only[go_sem];omega)|fail) only[↓reduceIte,↓AO,Nat.reduceAdd,go_sem,ha]
theorem VU (t:List UInt8):Cl 103 [.str t] []=some (.bool (EO t),[]):=by
 have h:=AFl t (ls:=Sz) (by decide) .sh Sz.length 0 (by omega)
 simp only[c0,List.drop_zero]at h
 have h2:Cl 159 [.lst 9 .sh (Sz.map .str),.str t] []=some (.bool (EO t),[]):=by
  have ix:Cl 192 [.lst 9 .sh (Sz.map .str),.str t] []=some (.int .i64 (KN (fun s=>decide (t=s)) 0 Sz),[]):=by
   rw[←h,AEe]
   simp(disch:=first|assumption|omega|(with_reducible rfl)|(simp only[go_sem];done)|(simp only[go_sem];omega)|fail) only[↓reduceIte,↓AO,Nat.reduceAdd,go_sem]
  rw[EO,←ZA _ Sz 0,AER]
  simp(disch:=first|assumption|omega|(with_reducible rfl)|(simp only[go_sem];done)|(simp only[go_sem];omega)|fail) only[↓reduceIte,↓AO,Nat.reduceAdd,go_sem,ix]
 simp only[Sz,List.map_cons,List.map_nil]at h2
 rw[AD7]
 simp(disch:=first|assumption|omega|(with_reducible rfl)|(simp only[go_sem];done)|(simp only[go_sem];omega)|fail) only[↓reduceIte,↓AO,Nat.reduceAdd,go_sem,h2]
theorem Z9 (t:List UInt8):Cl 96 [.str t] []=some (.bool (EO t),[]):=by
 rw[AH1]
 repeat' first|rfl|refine SI (fun _=> ?_) (fun _=> ?_)|refine SK (fun _=> ?_) (fun _=> ?_)|simp(disch:=first|assumption|omega|(with_reducible rfl)|(simp only[go_sem];done)|(simp only[go_sem];omega)|fail) only[↓reduceIte,↓AO,Nat.reduceAdd,go_sem]
 all_goals simp_all [EO,Sz]
structure Job where
 tag:List UInt8
 src:Int
 steps:Int
abbrev vJ (j:Job):V:= .agg 25 [.str j.tag,.int .i64 j.src,.int .i64 j.steps]
def Ie (g:Grf) (j:Job):Bool:=decide (I8 g=0∧EO j.tag=true∧0≤j.src∧j.src<g.n∧1≤j.steps∧j.steps≤64)
theorem Ql {g:Grf} (hl:g.es.length<1000000) (j:Job):Cl 41 [vG .sh g,vJ j] []=some (.int .i64 (if Ie g j=true then 0 else 70),[]):=by
 have hg:=Z4 hl
 rw[AHl]
 repeat' first|rfl|refine SI (fun _=> ?_) (fun _=> ?_)|refine SK (fun _=> ?_) (fun _=> ?_)|simp(disch:=first|assumption|omega|(with_reducible rfl)|(simp only[go_sem];done)|(simp only[go_sem];omega)|fail) only[↓reduceIte,↓AO,Nat.reduceAdd,go_sem,hg,VU]
 all_goals (rw[Ie];simp_all)
 all_goals omega
def firstX (j:Job) (v:Int):Vtx:=
 if EO j.tag=true then⟨v,if j.tag=[109,97,120]then(37*v+11).tmod 64 else if j.tag=[108,97,98,101,108]then v else if j.tag=[115,115,115,112]∨j.tag=[98,102,115]then(if v=j.src then 0 else -1)else if j.tag=[114,97,110,107]then 65536 else if j.tag=[119,97,108,107,115]then 1 else 0,true,false,0⟩else⟨0,0,false,false,0⟩
theorem AKv (a:Int):AL .rem (.int .i64 a) (.int .i64 64)=some (.int .i64 (a.tmod 64)):=LM _ _ _ (by omega)
theorem VW (j:Job) {v:Int} (h1:0≤v) (h2:v<1000):Cl 44 [vJ j,.int .i64 v] []=some (BG (firstX j v),[]):=by
 rw[AHn]
 repeat' first|rfl|refine SI (fun _=> ?_) (fun _=> ?_)|refine SK (fun _=> ?_) (fun _=> ?_)|simp(disch:=first|assumption|omega|(with_reducible rfl)|(simp only[go_sem];done)|(simp only[go_sem];omega)|fail) only[↓reduceIte,↓AO,Nat.reduceAdd,go_sem,VU,AKv]
 all_goals simp_all [firstX,BG]
end
section
open Go AM
def mA (v:Nat):Nat:=v*2654435761%4294967296
def mB (a:Nat):Nat:=a ^^^ (a/32768)
def mC (b:Nat):Nat:=b*2246822519%4294967296
def mD (c:Nat):Nat:=c ^^^ (c/8192)
def mixN (v:Nat):Nat:=mD (mC (mB (mA v)))
theorem AG2 (v:Nat):mA v<4294967296:=Nat.mod_lt _ (by omega)
theorem ACJ (v:Nat):mC v<4294967296:=Nat.mod_lt _ (by omega)
theorem Fg {a:Nat} (h:a<4294967296) (k:Nat):a/k<4294967296:=Nat.lt_of_le_of_lt (Nat.div_le_self a k) h
theorem AKw {a:Nat} (h:a<4294967296):mB a<4294967296:=Nat.xor_lt_two_pow (n:=32) h (Fg h _)
theorem AKx {a:Nat} (h:a<4294967296):mD a<4294967296:=Nat.xor_lt_two_pow (n:=32) h (Fg h _)
theorem AIm (v:Nat):mixN v<4294967296:=AKx (ACJ _)
theorem AG3 (a c:Nat):AL .mul (.int .u32 (a:Int)) (.int .u32 (c:Int))=some (.int .u32 ((a*c%4294967296:Nat):Int)):=by
 rw[QO,←Int.natCast_mul,F7]
theorem AG4 {a:Nat} (h:a<4294967296) (k:Nat) (hk:k≤32):AL .shr (.int .u32 (a:Int)) (.int .u64 (k:Int))=some (.int .u32 ((a/2^k:Nat):Int)):=by
 have e:(min (k:Int).toNat IntKind.u32.bits)=k:=by simp only[IntKind.bits,Int.toNat_natCast];omega
 have h2:=Nat.div_le_self a (2^k)
 have e2:((2:Int)^k)=((2^k:Nat):Int):=by simp
 rw[U0 _ _ _ _ (by omega),e,e2,Int.fdiv_eq_ediv_of_nonneg _ (Int.natCast_nonneg _),←Int.natCast_ediv]
@[go_sem] theorem m1 (a:Nat):AL .mul (.int .u32 (a:Int)) (.int .u32 2654435761)=some (.int .u32 (mA a:Int)):=AG3 a 2654435761
@[go_sem] theorem m2 (a:Nat):AL .mul (.int .u32 (a:Int)) (.int .u32 2246822519)=some (.int .u32 (mC a:Int)):=AG3 a 2246822519
theorem s15 {a:Nat} (h:a<4294967296):AL .shr (.int .u32 (a:Int)) (.int .u64 15)=some (.int .u32 ((a/32768:Nat):Int)):=AG4 h 15 (by omega)
theorem s13 {a:Nat} (h:a<4294967296):AL .shr (.int .u32 (a:Int)) (.int .u64 13)=some (.int .u32 ((a/8192:Nat):Int)):=AG4 h 13 (by omega)
theorem AIn (v:Nat):Cl 160 [.int .u32 (v:Int)] []=some (.int .u32 (mixN v:Int),[]):=by
 have a1:=AG2 v
 have b1:=ACJ (mB (mA v))
 have x1:AL .xor (.int .u32 (mA v:Int)) (.int .u32 ((mA v/32768:Nat):Int))=some (.int .u32 (mB (mA v):Int)):=u32_xor a1 (Fg a1 _)
 have x2:AL .xor (.int .u32 (mC (mB (mA v)):Int)) (.int .u32 ((mC (mB (mA v))/8192:Nat):Int))=some (.int .u32 (mixN v:Int)):=u32_xor b1 (Fg b1 _)
 rw[AES]
 simp(disch:=first|assumption|omega|(with_reducible rfl)|(simp only[go_sem];done)|(simp only[go_sem];omega)|fail) only[↓reduceIte,↓AO,Nat.reduceAdd,go_sem,s15 a1,x1,s13 b1,x2]
theorem AFm {a c:Nat} (h:a*c<18446744073709551616):AL .mul (.int .u64 (a:Int)) (.int .u64 (c:Int))=some (.int .u64 ((a*c:Nat):Int)):=by
 rw[QO,←Int.natCast_mul,wrap_u64 (by omega) (by omega)]
theorem q64 {a:Nat} (h:a<18446744073709551616) {c:Nat} (hc:0<c):AL .quo (.int .u64 (a:Int)) (.int .u64 (c:Int))=some (.int .u64 ((a/c:Nat):Int)):=by
 have:=Nat.div_le_self a c
 rw[Uz _ _ _ (by omega),(KL a c).1]
 generalize a/c=q at*
 rw[wrap_u64 (by omega) (by omega)]
theorem k1 {v:Nat} (h:v<4294967296) (K:V→Rv):((AL .mul (.int .u64 (v:Int)) (.int .u64 2654435761)).bind fun t=>(AL .rem t (.int .u64 4294967296)).bind K)=K (.int .u64 (mA v:Int)):=
 (AB (AFm (a:=v) (c:=2654435761) (by omega)) _).trans (AB (AB6 (a:=v*2654435761) (b:=4294967296) (by omega) .u64) _)
theorem k2 {v:Nat} (h:v<4294967296) (K:V→Rv):((AL .mul (.int .u64 (v:Int)) (.int .u64 2246822519)).bind fun t=>(AL .rem t (.int .u64 4294967296)).bind K)=K (.int .u64 (mC v:Int)):=
 (AB (AFm (a:=v) (c:=2246822519) (by omega)) _).trans (AB (AB6 (a:=v*2246822519) (b:=4294967296) (by omega) .u64) _)
theorem AFn {v:Nat} (hv:v<4294967296):Cl 143 [.int .u32 (v:Int)] []=some (.int .u32 (mixN v:Int),[]):=by
 have a1:=AG2 v
 have b0:=AKw a1
 have b1:=ACJ (mB (mA v))
 have d1:=AIm v
 have q1:AL .quo (.int .u64 (mA v:Int)) (.int .u64 32768)=some (.int .u64 ((mA v/32768:Nat):Int)):=q64 (c:=32768) (by omega) (by omega)
 have q2:AL .quo (.int .u64 (mC (mB (mA v)):Int)) (.int .u64 8192)=some (.int .u64 ((mC (mB (mA v))/8192:Nat):Int)):=q64 (c:=8192) (by omega) (by omega)
 have x1:AL .xor (.int .u64 (mA v:Int)) (.int .u64 ((mA v/32768:Nat):Int))=some (.int .u64 (mB (mA v):Int)):=u64_xor (by omega) (by have:=Fg a1 32768;omega)
 have x2:AL .xor (.int .u64 (mC (mB (mA v)):Int)) (.int .u64 ((mC (mB (mA v))/8192:Nat):Int))=some (.int .u64 (mixN v:Int)):=u64_xor (by omega) (by have:=Fg b1 8192;omega)
 have cv1:IJ .u64 (.int .u32 (v:Int))=some (.int .u64 (v:Int)):=cvI_u64 (by omega) (by omega)
 have cv2:IJ .u32 (.int .u64 (mixN v:Int))=some (.int .u32 (mixN v:Int)):=by rw[IJ,wrap_u32 (by omega) (by omega)]
 rw[AEG]
 refine(AB cv1 _).trans<|(k1 hv _).trans<|(AB q1 _).trans<|(AB x1 _).trans<|(k2 b0 _).trans<|(AB q2 _).trans<|(AB x2 _).trans<|(AB cv2 _).trans ?_
 simp(disch:=first|assumption|omega|(with_reducible rfl)|(simp only[go_sem];done)|(simp only[go_sem];omega)|fail) only[↓reduceIte,↓AO,Nat.reduceAdd,go_sem]
def ownN (v n:Nat):Nat:=mixN v%n
theorem ACK {v n:Nat} (hv:v<1000) (h1:1≤n) (h2:n≤64):Cl 106 [.int .i64 (v:Int),.int .i64 (n:Int)] []=some (.int .i64 (ownN v n:Int),[]):=by
 have hm:=AIn v
 have cv1:IJ .u32 (.int .i64 (v:Int))=some (.int .u32 (v:Int)):=by rw[IJ,wrap_u32 (by omega) (by omega)]
 have cv2:IJ .u32 (.int .i64 (n:Int))=some (.int .u32 (n:Int)):=by rw[IJ,wrap_u32 (by omega) (by omega)]
 have r:=AB6 (a:=mixN v) (b:=n) (by omega) .u32
 have hl:mixN v%n<n:=Nat.mod_lt _ (by omega)
 rw[ownN,AEA]
 simp(disch:=first|assumption|omega|(with_reducible rfl)|(simp only[go_sem];done)|(simp only[go_sem];omega)|fail) only[↓reduceIte,↓AO,Nat.reduceAdd,go_sem,cv1,cv2,hm,r]
theorem AAA {v n:Nat} (hv:v<1000) (h1:1≤n) (h2:n≤64):Cl 85 [.int .i64 (v:Int),.int .i64 (n:Int)] []=some (.int .i64 (ownN v n:Int),[]):=by
 have hm:=AFn (v:=v) (by omega)
 have r0:AL .rem (.int .u64 (v:Int)) (.int .u64 4294967296)=some (.int .u64 (v:Int)):=by
  have:=AB6 (a:=v) (b:=4294967296) (by omega) .u64
  rwa [Nat.mod_eq_of_lt (by omega)]at this
 have cv0:IJ .u64 (.int .i64 (v:Int))=some (.int .u64 (v:Int)):=cvI_u64 (by omega) (by omega)
 have cv1:IJ .u32 (.int .u64 (v:Int))=some (.int .u32 (v:Int)):=by rw[IJ,wrap_u32 (by omega) (by omega)]
 have cv2:IJ .u32 (.int .i64 (n:Int))=some (.int .u32 (n:Int)):=by rw[IJ,wrap_u32 (by omega) (by omega)]
 have r:=AB6 (a:=mixN v) (b:=n) (by omega) .u32
 have hl:mixN v%n<n:=Nat.mod_lt _ (by omega)
 rw[ownN,AHw]
 simp(disch:=first|assumption|omega|(with_reducible rfl)|(simp only[go_sem];done)|(simp only[go_sem];omega)|fail) only[↓reduceIte,↓AO,Nat.reduceAdd,go_sem,cv0,cv1,cv2,hm,r0,r]
def ofL (n N w:Nat):List Nat:=(List.range n).filter fun v=>decide (ownN v N=w)
theorem VX (n N w:Nat):ofL (n+1) N w=if ownN n N=w then ofL n N w++[n]else ofL n N w:=by
 simp only[ofL,List.range_succ,List.filter_append,List.filter_cons,List.filter_nil]
 by_cases h:ownN n N=w<;>simp[h]
theorem ACM {n N w v:Nat} (h:v∈ofL n N w):v<n:=by
 simp only[ofL,List.mem_filter,List.mem_range]at h;exact h.1
theorem S9 (n N w:Nat):(ofL n N w).length≤n:=by
 have:=List.length_filter_le (fun v=>decide (ownN v N=w)) (List.range n)
 simpa [ofL]using this
attribute [irreducible] mixN ownN ofL
abbrev vNs (f:Fl) (l:List Nat):V:= .lst 3 f (l.map fun(v:Nat)=>V.int .i64 (v:Int))
@[go_sem] theorem AKy (l:List Nat):I5 (l.map fun(v:Nat)=>V.int .i64 (v:Int))=true:=DN (fun _=>rfl) l
@[go_sem] theorem AKz (l:List Nat):(l.map fun(v:Nat)=>V.int .i64 (v:Int)).all (Pv .i64)=true:=all_map (fun _=>rfl) l
theorem ACO (f:Fl) (l:List Nat) (v:Nat):vNs f (l++[v])= .lst 3 f ((l.map fun(v:Nat)=>V.int .i64 (v:Int))++[.int .i64 (v:Int)]):=by simp[vNs]
theorem AIo {v N w:Nat} (hv:v<1000) (h1:1≤N) (h2:N≤64):Cl 105 [.int .i64 (v:Int),.ref 0 [] 3,.ref 1 [] 3] [.int .i64 (N:Int),.int .i64 (w:Int)]=some (.bool (decide (ownN v N=w)),[.int .i64 (N:Int),.int .i64 (w:Int)]):=by
 have ho:=ACK hv h1 h2
 have e:decide ((ownN v N:Int)=(w:Int))=decide (ownN v N=w):=decide_eq_decide.2 (by omega)
 rw[AD9]
 simp(disch:=first|assumption|omega|(with_reducible rfl)|(simp only[go_sem];done)|(simp only[go_sem];omega)|fail) only[↓reduceIte,↓AO,Nat.reduceAdd,go_sem,ho,e]
theorem AM0 {v N w:Nat} (hv:v<1000) (h1:1≤N) (h2:N≤64) (k:V→List V→Rv):Cj P DU W (.clo 105 [.ref 0 [] 3,.ref 1 [] 3]) [.int .i64 (v:Int)] [.int .i64 (N:Int),.int .i64 (w:Int)] k=k (.bool (decide (ownN v N=w))) [.int .i64 (N:Int),.int .i64 (w:Int)]:=
 Qh k (by kernel_rfl) (by kernel_rfl) (AIo hv h1 h2)
theorem AIp {n N w:Nat} (hn:n≤64) (h1:1≤N) (h2:N≤64):∀(m i:Nat) (f:Fl),i+m=n→(f= .own∨f= .nil)→
 NJ (.clo 105 [.ref 0 [] 3,.ref 1 [] 3]) (vNs f (ofL i N w)) (.int .i64 (n:Int)) (.int .i64 (i:Int)) [.int .i64 (N:Int),.int .i64 (w:Int)]=some (.tup [vNs .sh (ofL n N w),.int .i64 0],[]):=by
 intro m
 induction m with
 |zero=>
  intro i f hi hf
  obtain rfl:i=n:=by omega
  rw[QJ]
  rcases hf with rfl|rfl
  ·simp(disch:=first|assumption|omega|(with_reducible rfl)|(simp only[go_sem];done)|(simp only[go_sem];omega)|fail) only[↓reduceIte,↓AO,Nat.reduceAdd,go_sem]
  ·simp(disch:=first|assumption|omega|(with_reducible rfl)|(simp only[go_sem];done)|(simp only[go_sem];omega)|fail) only[↓reduceIte,↓AO,Nat.reduceAdd,go_sem]
 |succ m ih=>
  intro i f hi hf
  have hl:=S9 i N w
  have hv:=ACO .own (ofL i N w) i
  have h:=AM0 (v:=i) (N:=N) (w:=w) (by omega) h1 h2
  rw[QJ]
  by_cases ho:ownN i N=w
  ·have:=ih (i+1) .own (by omega) (Or.inl rfl)
   rw[VX,if_pos ho]at this
   rcases hf with rfl|rfl
   ·simp(disch:=first|assumption|omega|(with_reducible rfl)|(simp only[go_sem];done)|(simp only[go_sem];omega)|fail) only[↓reduceIte,↓AO,Nat.reduceAdd,go_sem,h,decide_eq_true ho]
    rw[hv]at this;exact this
   ·simp(disch:=first|assumption|omega|(with_reducible rfl)|(simp only[go_sem];done)|(simp only[go_sem];omega)|fail) only[↓reduceIte,↓AO,Nat.reduceAdd,go_sem,h,decide_eq_true ho]
    rw[hv]at this;exact this
  ·have:=ih (i+1) f (by omega) hf
   rw[VX,if_neg ho]at this
   simp(disch:=first|assumption|omega|(with_reducible rfl)|(simp only[go_sem];done)|(simp only[go_sem];omega)|fail) only[↓reduceIte,↓AO,Nat.reduceAdd,go_sem,h,decide_eq_false ho]
   exact this
theorem AIq {n N w:Nat} (h0:1≤n) (hn:n≤64) (h1:1≤N) (h2:N≤64) (hw:w<N):Cl 42 [.int .i64 (n:Int),.int .i64 (N:Int),.int .i64 (w:Int)] []=some (.tup [vNs .sh (ofL n N w),.int .i64 0],[]):=by
 have h:=AIp (w:=w) hn h1 h2 n 0 .nil (by omega) (Or.inr rfl)
 have r:Cl 104 [.int .i64 (n:Int),.int .i64 (N:Int)] []=some (.bool true,[]):=by
  rw[AD8]
  simp(disch:=first|assumption|omega|(with_reducible rfl)|(simp only[go_sem];done)|(simp only[go_sem];omega)|fail) only[↓reduceIte,↓AO,Nat.reduceAdd,go_sem]
  rw[decide_eq_true (by omega)]
 have z:vNs .nil (ofL 0 N w)= .lst 3 .nil []:=by simp[ofL]
 rw[z]at h
 rw[←h,AHm]
 simp(disch:=first|assumption|omega|(with_reducible rfl)|(simp only[go_sem];done)|(simp only[go_sem];omega)|fail) only[↓reduceIte,↓AO,Nat.reduceAdd,go_sem,r]
 rfl
end
section
open Go AM
abbrev kE (e:E0):Int×Int:=(e.fr,e.to)
theorem ACP (es:List E0) {i:Nat} (h:i<es.length):((es.take (i+1)).map kE).Nodup↔((es.take i).map kE).Nodup∧(es.take i).any (fun x=>decide (kE x=kE es[i]))=false:=by
 rw[List.take_add_one,List.getElem?_eq_getElem h,Option.toList_some,List.map_append,List.nodup_append]
 simp only[List.map_cons,List.map_nil,List.nodup_cons,List.not_mem_nil,not_false_eq_true,List.nodup_nil,and_self,true_and,List.mem_cons,or_false]
 refine and_congr_right fun _=> ?_
 rw[List.any_eq_false]
 constructor
 ·intro h x hx;simp only[decide_eq_true_eq];exact fun e=>h (kE x) (List.mem_map_of_mem hx) _ rfl e
 ·rintro h a ha b rfl e
  obtain⟨x,hx,rfl⟩:=List.mem_map.1 ha
  exact h x hx (decide_eq_true e)
theorem AK0 {g:Grf} (hl:g.es.length<1000000) {i:Nat} (hi:i<g.es.length):∀(n k:Nat) (b:Bool),k+n=i→
 Rh rG (.bool b) (.int .i64 (i:Int)) (.ref 1 [] 96) (.int .i64 (k:Int)) 1 [vG .sh g,IK g.es[i]]=
  NK rG (.bool (b||((g.es.take i).drop k).any (fun x=>decide (kE x=kE g.es[i])))) (.int .i64 ((i+1:Nat):Int)) [vG .sh g]:=by
 intro n
 induction n with
 |zero=>
  intro k b hk
  rw[List.drop_eq_nil_of_le (by simp;omega),List.any_nil,Bool.or_false,QM]
  simp(disch:=first|assumption|omega|(with_reducible rfl)|(simp only[go_sem];done)|(simp only[go_sem];omega)|fail) only[↓reduceIte,↓AO,Nat.reduceAdd,go_sem]
 |succ n ih=>
  intro k b hk
  have hk2:k<g.es.length:=by omega
  have hx:=Y9 hk2
  have hlen:k<(g.es.take i).length:=by simp;omega
  have hd:(g.es.take i).drop k=g.es[k]::(g.es.take i).drop (k+1):=by
   rw[List.drop_eq_getElem_cons hlen,List.getElem_take]
  rw[hd,List.any_cons,QM]
  cases b with
  |true=>
   have:=ih (k+1) true (by omega)
   rw[Bool.true_or]at this⊢
   rw[←this]
   simp(disch:=first|assumption|omega|(with_reducible rfl)|(simp only[go_sem];done)|(simp only[go_sem];omega)|fail) only[↓reduceIte,↓AO,Nat.reduceAdd,go_sem]
  |false=>
   rw[Bool.false_or]
   by_cases h1:g.es[k].fr=g.es[i].fr
   ·by_cases h2:g.es[k].to=g.es[i].to
    ·have:=ih (k+1) true (by omega)
     rw[Bool.true_or]at this
     rw[decide_eq_true (show kE g.es[k]=kE g.es[i]by rw[kE,h1,h2]),Bool.true_or,←this]
     generalize hek:g.es[k]=a at*
     generalize hei:g.es[i]=c at*
     simp only[IK]at hx⊢
     simp(disch:=first|assumption|omega|(with_reducible rfl)|(simp only[go_sem];done)|(simp only[go_sem];omega)|fail) only[↓reduceIte,↓AO,Nat.reduceAdd,go_sem,hx,h1,h2,decide_true]
    ·have:=ih (k+1) false (by omega)
     rw[Bool.false_or]at this
     rw[decide_eq_false (show ¬kE g.es[k]=kE g.es[i]from fun e=>h2 (Prod.mk.inj e).2),Bool.false_or,←this]
     generalize hek:g.es[k]=a at*
     generalize hei:g.es[i]=c at*
     simp only[IK]at hx⊢
     simp(disch:=first|assumption|omega|(with_reducible rfl)|(simp only[go_sem];done)|(simp only[go_sem];omega)|fail) only[↓reduceIte,↓AO,Nat.reduceAdd,go_sem,hx,h1,decide_eq_false h2]
   ·have:=ih (k+1) false (by omega)
    rw[Bool.false_or]at this
    rw[decide_eq_false (show ¬kE g.es[k]=kE g.es[i]from fun e=>h1 (Prod.mk.inj e).1),Bool.false_or,←this]
    generalize hek:g.es[k]=a at*
    generalize hei:g.es[i]=c at*
    simp only[IK]at hx⊢
    simp(disch:=first|assumption|omega|(with_reducible rfl)|(simp only[go_sem];done)|(simp only[go_sem];omega)|fail) only[↓reduceIte,↓AO,Nat.reduceAdd,go_sem,hx]
def r5 (g:Grf) (i:Nat):Int:=if(g.es.drop i).any (Ez g.n)=true then 50 else if(g.es.map kE).Nodup then 0 else 51
theorem AK1 {g:Grf} (hl:g.es.length<1000000):∀(n i:Nat) (b:Bool),i+n=g.es.length→b= !decide ((g.es.take i).map kE).Nodup→
 NK rG (.bool b) (.int .i64 (i:Int)) [vG .sh g]=some (.int .i64 (r5 g i),[]):=by
 intro n
 induction n with
 |zero=>
  intro i b hi hb
  rw[List.take_of_length_le (by omega)]at hb
  rw[r5,List.drop_eq_nil_of_le (by omega),List.any_nil,QN]
  by_cases hn:(g.es.map kE).Nodup
  ·rw[decide_eq_true hn]at hb
   subst hb
   rw[if_pos hn]
   simp(disch:=first|assumption|omega|(with_reducible rfl)|(simp only[go_sem];done)|(simp only[go_sem];omega)|fail) only[↓reduceIte,↓AO,Nat.reduceAdd,go_sem]
   rfl
  ·rw[decide_eq_false hn]at hb
   subst hb
   rw[if_neg hn]
   simp(disch:=first|assumption|omega|(with_reducible rfl)|(simp only[go_sem];done)|(simp only[go_sem];omega)|fail) only[↓reduceIte,↓AO,Nat.reduceAdd,go_sem]
   rfl
 |succ n ih=>
  intro i b hi hb
  have h:i<g.es.length:=by omega
  have hx:=Y9 h
  have l2:=AK0 hl h i 0 b (by omega)
  rw[List.drop_zero]at l2
  have hk:=ACP g.es h
  have ih':=ih (i+1) (b||(g.es.take i).any (fun x=>decide (kE x=kE g.es[i]))) (by omega) (by
   subst hb
   rw[Bool.eq_iff_iff]
   by_cases p:((g.es.take i).map kE).Nodup<;>cases q:(g.es.take i).any (fun x=>decide (kE x=kE g.es[i]))<;>simp_all)
  rw[ih']at l2
  have hbad:Ez g.n g.es[i]=true→r5 g i=50:=fun ho=>by rw[r5,List.drop_eq_getElem_cons h,List.any_cons,ho];rfl
  have hok:Ez g.n g.es[i]=false→r5 g i=r5 g (i+1):=fun ho=>by rw[r5,r5,List.drop_eq_getElem_cons h,List.any_cons,ho];rfl
  generalize r5 g i=r at*
  generalize r5 g (i+1)=r' at*
  generalize he:g.es[i]=e at*
  rw[QN]
  simp only[IK,c0]at hx l2
  repeat' first|rfl|refine SI (fun _=> ?_) (fun _=> ?_)|refine SK (fun _=> ?_) (fun _=> ?_)|simp(disch:=first|assumption|omega|(with_reducible rfl)|(simp only[go_sem];done)|(simp only[go_sem];omega)|fail) only[↓reduceIte,↓AO,Nat.reduceAdd,go_sem,hx,l2]
  all_goals simp only[Ez]at hbad hok
  all_goals simp_all
  all_goals omega
theorem AFo {g:Grf} (hl:g.es.length<1000000):Cl 95 [vG .sh g] []=some (.int .i64 (I8 g),[]):=by
 have h:=AK1 hl g.es.length 0 false (by omega) (by simp)
 simp only[c0]at h
 have e:∀(a:1≤g.n) (b:g.n≤64) (c:g.es.length≤512),I8 g=r5 g 0:=by
  intro a b c
  rw[I8,r5,List.drop_zero]
  by_cases ho:g.es.any (Ez g.n)=true
  ·rw[if_neg (fun h=>by rw[ho]at h;cases h.2.2.2),if_pos ho]
  ·rw[if_pos ⟨a,b,c,by simpa using ho⟩,if_neg ho]
 by_cases h1:g.n<1
 ·rw[I8,if_neg (by omega),Ri]
  simp(disch:=first|assumption|omega|(with_reducible rfl)|(simp only[go_sem];done)|(simp only[go_sem];omega)|fail) only[↓reduceIte,↓AO,Nat.reduceAdd,go_sem]
 by_cases h2:64<g.n
 ·rw[I8,if_neg (by omega),Ri]
  simp(disch:=first|assumption|omega|(with_reducible rfl)|(simp only[go_sem];done)|(simp only[go_sem];omega)|fail) only[↓reduceIte,↓AO,Nat.reduceAdd,go_sem]
 by_cases h3:512<g.es.length
 ·rw[I8,if_neg (by omega),Ri]
  simp(disch:=first|assumption|omega|(with_reducible rfl)|(simp only[go_sem];done)|(simp only[go_sem];omega)|fail) only[↓reduceIte,↓AO,Nat.reduceAdd,go_sem]
 rw[e (by omega) (by omega) (by omega),Ri]
 simp(disch:=first|assumption|omega|(with_reducible rfl)|(simp only[go_sem];done)|(simp only[go_sem];omega)|fail) only[↓reduceIte,↓AO,Nat.reduceAdd,go_sem,h]
end
section
open Go AM
theorem XA {g:Grf} (hl:g.es.length<1000000) (j:Job):Cl 37 [vG .sh g,vJ j] []=some (.bool (Ie g j),[]):=by
 have hg:=AFo hl
 rw[AHk]
 repeat' first|rfl|refine SI (fun _=> ?_) (fun _=> ?_)|refine SK (fun _=> ?_) (fun _=> ?_)|simp(disch:=first|assumption|omega|(with_reducible rfl)|(simp only[go_sem];done)|(simp only[go_sem];omega)|fail) only[↓reduceIte,↓AO,Nat.reduceAdd,go_sem,hg,Z9]
 all_goals (rw[Ie];simp_all)
 all_goals omega
end
section
open Go AM
structure Msg where
 fr:Int
 to:Int
 val:Int
 deriving DecidableEq
def AFp (m:Msg):V:= .agg 151 [.int .i64 m.fr,.int .i64 m.to,.int .i64 m.val]
end
section
open Go AM
@[go_sem] theorem ALx (m:Msg):(AFp m).pl=true:=(rfl)
@[go_sem] theorem AK2 (l:List Msg):I5 (l.map AFp)=true:=DN (fun _=>rfl) l
@[go_sem] theorem AK3 (m:Msg):CG 151 (AFp m)=true:=Ou ..
@[go_sem] theorem AK4 (l:List Msg):(l.map AFp).all (CG 151)=true:=all_map (fun _=>Ou ..) l
end
section
open Go AM
def Gn (n:Int):Bool:=decide (1125899906842624<n)||decide (n< -1125899906842624)
theorem Gp (n:Int):Cl 175 [.int .i64 n] []=some (.bool (Gn n),[]):=by
 rw[AET,Gn]
 by_cases h:1125899906842624<n
 ·simp(disch:=first|assumption|omega|(with_reducible rfl)|(simp only[go_sem];done)|(simp only[go_sem];omega)|fail) only[↓reduceIte,↓AO,Nat.reduceAdd,go_sem]
  rw[decide_eq_true h];rfl
 ·simp(disch:=first|assumption|omega|(with_reducible rfl)|(simp only[go_sem];done)|(simp only[go_sem];omega)|fail) only[↓reduceIte,↓AO,Nat.reduceAdd,go_sem]
  rw[decide_eq_false h];rfl
def E5 (x:Vtx):Bool:= !(decide (x.id<0)||decide (64≤x.id)||Gn x.val||Gn x.inn||(!x.has&&decide (x.inn≠0)))
theorem AAB (x:Vtx):Cl 128 [BG x] []=some (.int .i64 (if E5 x=true then 0 else 100),[]):=by
 by_cases h1:x.id<0
 ·rw[show(if E5 x=true then(0:Int)else 100)=100 from if_neg (by simp[E5,h1])]
  rw[F5]
  simp only[BG]
  simp(disch:=first|assumption|omega|(with_reducible rfl)|(simp only[go_sem];done)|(simp only[go_sem];omega)|fail) only[↓reduceIte,↓AO,Nat.reduceAdd,go_sem]
 by_cases h2:64≤x.id
 ·rw[show(if E5 x=true then(0:Int)else 100)=100 from if_neg (by simp[E5,h2])]
  rw[F5]
  simp only[BG]
  simp(disch:=first|assumption|omega|(with_reducible rfl)|(simp only[go_sem];done)|(simp only[go_sem];omega)|fail) only[↓reduceIte,↓AO,Nat.reduceAdd,go_sem]
 by_cases h3:Gn x.val=true
 ·rw[show(if E5 x=true then(0:Int)else 100)=100 from if_neg (by simp[E5,h3])]
  rw[F5]
  simp only[BG]
  simp(disch:=first|assumption|omega|(with_reducible rfl)|(simp only[go_sem];done)|(simp only[go_sem];omega)|fail) only[↓reduceIte,↓AO,Nat.reduceAdd,go_sem,Gp,h3]
 by_cases h4:Gn x.inn=true
 ·rw[show(if E5 x=true then(0:Int)else 100)=100 from if_neg (by simp[E5,h4])]
  rw[F5]
  simp only[BG]
  simp(disch:=first|assumption|omega|(with_reducible rfl)|(simp only[go_sem];done)|(simp only[go_sem];omega)|fail) only[↓reduceIte,↓AO,Nat.reduceAdd,go_sem,Gp,h3,h4]
 simp only[Bool.not_eq_true]at h3 h4
 cases h5:x.has
 ·by_cases h6:x.inn=0
  ·rw[show(if E5 x=true then(0:Int)else 100)=0 from if_pos (by simp only[E5,h3,h4,h5,h6,decide_eq_false h1,decide_eq_false h2];rfl)]
   rw[F5]
   simp only[BG]
   simp(disch:=first|assumption|omega|(with_reducible rfl)|(simp only[go_sem];done)|(simp only[go_sem];omega)|fail) only[↓reduceIte,↓AO,Nat.reduceAdd,go_sem,Gp,h3,h4,h5]
  ·rw[show(if E5 x=true then(0:Int)else 100)=100 from if_neg (by simp[E5,h5,h6])]
   rw[F5]
   simp only[BG]
   simp(disch:=first|assumption|omega|(with_reducible rfl)|(simp only[go_sem];done)|(simp only[go_sem];omega)|fail) only[↓reduceIte,↓AO,Nat.reduceAdd,go_sem,Gp,h3,h4,h5]
 ·rw[show(if E5 x=true then(0:Int)else 100)=0 from if_pos (by simp[E5,h1,h2,h3,h4,h5])]
  rw[F5]
  simp only[BG]
  simp(disch:=first|assumption|omega|(with_reducible rfl)|(simp only[go_sem];done)|(simp only[go_sem];omega)|fail) only[↓reduceIte,↓AO,Nat.reduceAdd,go_sem,Gp,h3,h4,h5]
def F8 (b:Bool):Nat:=if b=true then 1 else 0
theorem AIr (b:Bool):Cl 130 [.bool b] []=some (.int .u64 (F8 b:Int),[]):=by
 rw[AED]
 cases b<;>rfl
def vtxB (x:Vtx):List UInt8:=if E5 x=true then BV x.id.toNat++BV (Lp x.val)++BV (F8 x.act)++BV (F8 x.has)++BV (Lp x.inn)else[]
theorem VY {a:V} {f:Fl} {l:List UInt8} {n:Int} (hf:OK f) (h1:I64 n) (hl:l.length≤2000000000):Cl 129 [ET 1,.int .i64 n] [a,Ba f l]=some (.tup [],[a,Ba .own (l++BV (Lp n))]):=Zx (h:=[a,Ba f l]) (id:=1) rfl hf h1.1 h1.2 (by omega)
theorem ZF (b:Bool):(F8 b:Int)<18446744073709551616:=by cases b<;>decide
theorem ACQ (x:Vtx):(vtxB x).length≤50:=by
 have a:=A7 10 x.id.toNat;have b:=A7 10 (Lp x.val);have c:=A7 10 (Lp x.inn)
 have d:=A7 10 (F8 x.act);have e:=A7 10 (F8 x.has)
 simp only[vtxB];split
 ·simp only[List.length_append,BV];omega
 ·simp
theorem AFq {x:Vtx} (hx:VOk x):Cl 62 [BG x] []=some (.str (vtxB x),[]):=by
 obtain⟨x1,x2,x3⟩:=hx
 have hc:=AAB x
 by_cases h:E5 x=true
 ·have h0:0≤x.id:=by simp only[E5,Bool.not_eq_true',Bool.or_eq_false_iff,decide_eq_false_iff_not]at h;omega
  have hlt:x.id<18446744073709551616:=by have:=x1.2;omega
  rw[if_pos h]at hc
  rw[vtxB,if_pos h,ABJ]
  have a:=A7 10 x.id.toNat;have b:=A7 10 (Lp x.val);have c:=A7 10 (Lp x.inn)
  have d:=A7 10 (F8 x.act);have e:=A7 10 (F8 x.has)
  generalize ha:BV x.id.toNat=n1
  generalize hb:BV (Lp x.val)=n2
  generalize hd:BV (F8 x.act)=n3
  generalize he:BV (F8 x.has)=n4
  have s1:∀w:V,Cl 69 [ET 1,.int .u64 x.id] [w,Ba .nil []]=_:=fun w=>O0 (a:=w) (f:= .nil) (l:=[]) AIl h0 hlt (by simp)
  rw[ha,List.nil_append]at s1
  have t1:n1.length≤10:=ha▸a
  have s2:∀w:V,Cl 129 [ET 1,.int .i64 x.val] [w,Ba .own n1]=_:=fun w=>VY (a:=w) Sv x2 (by omega)
  rw[hb]at s2
  have t2:n2.length≤10:=hb▸b
  have s3:∀w:V,Cl 69 [ET 1,.int .u64 (F8 x.act:Int)] [w,Ba .own (n1++n2)]=_:=fun w=>O0 (a:=w) Sv (by omega) (ZF _) (by simp only[List.length_append];omega)
  rw[Int.toNat_natCast,hd]at s3
  have t3:n3.length≤10:=hd▸d
  have s4:∀w:V,Cl 69 [ET 1,.int .u64 (F8 x.has:Int)] [w,Ba .own (n1++n2++n3)]=_:=fun w=>O0 (a:=w) Sv (by omega) (ZF _) (by simp only[List.length_append];omega)
  rw[Int.toNat_natCast,he]at s4
  have t4:n4.length≤10:=he▸e
  have s5:∀w:V,Cl 129 [ET 1,.int .i64 x.inn] [w,Ba .own (n1++n2++n3++n4)]=_:=fun w=>VY (a:=w) Sv x3 (by simp only[List.length_append];omega)
  have hb1:∀b,Cl 130 [.bool b] []=_:=AIr
  simp only[List.append_assoc]at s3 s4 s5⊢
  simp only[BG]at hc⊢
  simp(disch:=first|assumption|omega|(with_reducible rfl)|(simp only[go_sem];done)|(simp only[go_sem];omega)|fail) only[↓reduceIte,↓AO,Nat.reduceAdd,go_sem,hc,ACI,s1,s2,s3,s4,s5,hb1,Z8]
 ·rw[if_neg h]at hc
  rw[vtxB,if_neg h,ABJ]
  simp only[BG]at hc⊢
  simp(disch:=first|assumption|omega|(with_reducible rfl)|(simp only[go_sem];done)|(simp only[go_sem];omega)|fail) only[↓reduceIte,↓AO,Nat.reduceAdd,go_sem,hc]
abbrev ACR (n:Nat):V:= .win 0 [] 0 n 9
abbrev AAC (d:List (List UInt8)):V:= .row 9 (d.map V.str)
theorem AAD (n:Nat) (f:Fl) (l:List Vtx):V.under n (.lst 86 f (l.map BG))=true:=by
 have:=(V.PF (.agg 0 (l.map BG)) (SY l)).under n
 cases f<;>first|rfl|exact this
theorem ACS {l:List Vtx} (hl:∀x∈l,VOk x) (hn:l.length≤1000000) (f:Fl):∀(n i:Nat) (d:List (List UInt8)),i+n=l.length→d.length=l.length→
 RY (ACR l.length) (.lst 86 f (l.map BG)) (.int .i64 (l.length:Int)) (.int .i64 (i:Int)) [AAC d]=some (.lst 9 .sh ((d.take i++(l.drop i).map vtxB).map V.str),[]):=by
 intro n
 induction n with
 |zero=>
  intro i d hi hd
  have e1:l.drop i=[]:=List.drop_eq_nil_of_le (by omega)
  rw[e1,List.map_nil,List.append_nil,List.take_of_length_le (by omega),QK]
  have c:Ad [AAC d] (ACR l.length)=some (d.map V.str):=by
   simp only[Ad,rd,List.getElem?_cons_zero,Option.bind_some,V.at,V.items,List.drop_zero]
   simp only[V.items,Option.map_some,Option.bind_some]
   rw[←hd];exact congrArg some (List.take_of_length_le (by simp))
  have fin:AV 0 [AAC d] (ACR l.length)=some (.lst 9 .sh (d.map V.str),[]):=by
   have cl:AQ (d.map V.str)=true:=by
    clear c hd;induction d with
    |nil=>rfl
    |cons x t ih=>simp only[List.map_cons,AQ,ih];rfl
   have nl:AY (d.map V.str)=d.map V.str:=by
    clear c hd cl;induction d with
    |nil=>rfl
    |cons x t ih=>simp only[List.map_cons,AY,ih];rfl
   simp only[AV,V.unmut,c,cl,nl,if_true]
   rfl
  simp(disch:=first|assumption|omega|(with_reducible rfl)|(simp only[go_sem];done)|(simp only[go_sem];omega)|fail) only[↓reduceIte,↓AO,Nat.reduceAdd,go_sem,fin]
 |succ n ih=>
  intro i d hi hd
  have h:i<l.length:=by omega
  have hx:=hl _ (List.getElem_mem h)
  have hr:=AFq hx
  have:=ih (i+1) (d.set i (vtxB l[i])) (by omega) (by simp[hd])
  have e:(d.set i (vtxB l[i])).take (i+1)++(l.drop (i+1)).map vtxB=d.take i++(l.drop i).map vtxB:=by
   rw[List.drop_eq_getElem_cons h,List.map_cons,List.take_add_one,List.take_set_of_le (by omega),List.getElem?_set_self (by omega)]
   simp
  rw[e]at this
  rw[←this,QK]
  have ix:Gg 9 (V.weak (ACR l.length)) (.int .i64 (i:Int))=some (.ref 0 [i] 9):=by
   simp only[V.weak,Gg,inside]
   simp;omega
  have hu:=AAD 1 f l
  rw[AAC,AAC,List.map_set]
  simp(disch:=first|assumption|omega|(with_reducible rfl)|(simp only[go_sem];done)|(simp only[go_sem];omega)|fail) only[↓reduceIte,↓AO,Nat.reduceAdd,go_sem,AG0 h,hr,ix,hu]
theorem ACT {l:List Vtx} (hl:∀x∈l,VOk x) (hn:l.length≤1000000) (f:Fl):Cl 64 [.lst 86 f (l.map BG)] []=some (.lst 9 .sh ((l.map vtxB).map V.str),[]):=by
 have h:=ACS hl hn f l.length 0 (List.replicate l.length []) (by omega) (by simp)
 rw[List.take_zero,List.nil_append,List.drop_zero]at h
 simp only[c0]at h
 have mk:mkL 9 (.str []) (.int .i64 (l.length:Int)) (.int .i64 (l.length:Int))=some (.lst 9 .own (List.replicate l.length (.str []))):=by
  simp only[mkL]
  rw[if_pos ⟨by omega,by omega,by omega⟩];rfl
 have tb:C9 [] (.lst 9 .own (List.replicate l.length (.str [])))=some (ACR l.length,[AAC (List.replicate l.length [])]):=by
  simp[C9]
 rw[←h,AHo]
 simp(disch:=first|assumption|omega|(with_reducible rfl)|(simp only[go_sem];done)|(simp only[go_sem];omega)|fail) only[↓reduceIte,↓AO,Nat.reduceAdd,go_sem,mk,tb]
theorem ACU (l:List Vtx):Short (l.map vtxB):=by
 intro s hs
 obtain⟨x,_,rfl⟩:=List.mem_map.1 hs
 have:=ACQ x;omega
def vrootB (l:List Vtx):List UInt8:=ZE (l.map vtxB)
theorem ACV {l:List Vtx} (hl:∀x∈l,VOk x) (hn:l.length≤1000000) (f:Fl):Cl 83 [.lst 86 f (l.map BG)] []=some (BH (vrootB l),[]):=by
 have h:=ACT hl hn
 rw[AHu,I9]
 simp(disch:=first|assumption|omega|(with_reducible rfl)|(simp only[go_sem];done)|(simp only[go_sem];omega)|fail) only[↓reduceIte,↓AO,Nat.reduceAdd,go_sem,h,AFj (l:=l.map vtxB) (by simp;omega) (ACU l)]
 rfl
end
section
open Go AM
def sS (l:List (List UInt8)):V:= .lst 9 .sh (l.map V.str)
@[go_sem] theorem ALy (l:List (List UInt8)):(sS l).weak=sS l:=(rfl)
@[go_sem] theorem AK5 (l:List (List UInt8)):(sS l).pl=true:=ACG l
@[go_sem] theorem AM1 (l:List (List (List UInt8))):I5 (l.map sS)=true:=DN AK5 l
@[go_sem] theorem AJX (l:List Bool):I5 (l.map V.bool)=true:=DN (fun _=>rfl) l
@[go_sem] theorem AIs (l:List (List UInt8)):Xm 9 (sS l)=true:=(rfl)
@[go_sem] theorem AM2 (l:List (List (List UInt8))):(l.map sS).all (Xm 9)=true:=all_map AIs l
@[go_sem] theorem AJY (l:List Bool):(l.map V.bool).all AM.tyB=true:=all_map (fun _=>rfl) l
@[go_sem] theorem AJZ (l:List (List UInt8)):I5 (l.map BH)=true:=DN ACF l
theorem XB {f:FuncId} {id:Nat} {p:List Nat} {t:TypeId} {vs vs' h:List V} {v r:V} (he:DU.ext f=false) (hp:DU.pure f=true) (hh:h[id]?=some v) (haw:Bo id (h.set id void)=true)
 (hv:Bo id vs=true) (hrf:AA (h.set id void) vs=vs') (hr:r.away id=true) (e:Cl f vs' []=some (r,[])) (k:V→List V→Rv) (hs:(DU.seq f).1=0:=by kernel_rfl) (ht:DU.two f=false:=by kernel_rfl):
 EQ P DU W (some (.ref id p t)) (.clo f []) vs h k=k r h:=by
 have hlt:=SA hh
 simp only[EQ,hh,haw,hv]
 rw[if_pos (show(V.away id (.clo f [])&&true&&true)=true from rfl),AEs _ he hp hs ht,List.append_nil,hrf]
 refine(AB e _).trans ?_
 rw[if_pos (by rw[hr,haw,List.length_set];simp only[Bool.true_and];exact Nat.ble_eq_true_of_le hlt),List.set_set]
 congr 1
 exact(List.ext_getElem? fun i=>by
  by_cases hi:i=id
  ·subst hi;rw[List.getElem?_set_self hlt,hh]
  ·rw[List.getElem?_set_ne (Ne.symm hi)])
theorem ACW {h:List V} {id i:Nat} {u e t:TypeId} {f:Fl} {fs xs:List V} (hh:h[id]?=some (.agg u fs)) (hf:fs[i]?=some (.lst e f xs)):CU h t (.ref id [i] t)=some (.lst e f xs,h.set id (.agg u (fs.set i (.lst e f.wk xs)))):=by
 simp only[CU,if_true,rd,wr,hh,Option.bind_some,V.at,V.upd,hf,Zy,Option.map_some]
@[go_sem] theorem AM3 (t u:TypeId) (xs ys:List V):Zh true [.lst t .own xs,.lst u .own ys]=true:=(rfl)
@[go_sem] theorem AM4 (t u:TypeId) (xs ys:List V):Zh true [.lst t .nil xs,.lst u .own ys]=true:=(rfl)
def JA (g:Grf) (j:Job) (N w:Nat):List Vtx:=(ofL g.n.toNat N w).map fun(v:Nat)=>firstX j (v:Int)
theorem AAE (j:Job) {v:Nat} (hv:v<64):VOk (firstX j (v:Int)):=by
 have: -9223372036854775808≤(37*(v:Int)+11).tmod 64∧(37*(v:Int)+11).tmod 64<9223372036854775808:=by
  rw[Int.tmod_eq_emod_of_nonneg (by omega)];omega
 simp only[VOk,firstX,I64]
 repeat' split
 all_goals (simp only[];omega)
theorem AFr {g:Grf} (hg:g.n≤64) (j:Job) (N w:Nat):∀x∈JA g j N w,VOk x:=by
 intro x hx
 obtain⟨v,hv,rfl⟩:=List.mem_map.1 hx
 have:=ACM hv
 exact AAE j (by omega)
theorem ACX (g:Grf) (j:Job) (N w:Nat):(JA g j N w).length≤g.n.toNat:=by
 rw[JA,List.length_map];exact S9 _ _ _
theorem KO (l:List Vtx):(vrootB l).length=32:=Z5 _ _
attribute [local irreducible] vrootB vtxB firstX
theorem TA {g:Grf} {j:Job} (hj:Ie g j=true):1≤g.n∧g.n≤64:=by
 have hg:I8 g=0:=(of_decide_eq_true hj).1
 rw[I8]at hg
 by_cases h:1≤g.n∧g.n≤64∧g.es.length≤512∧g.es.any (Ez g.n)=false
 ·exact⟨h.1,h.2.1⟩
 ·rw[if_neg h]at hg;omega
theorem ACY {g:Grf} (hl:g.es.length<1000000):Cl 12 [vG .sh g] []=some (vG .sh g,[]):=by
 rw[AHa]
 have ap:∀h:List V,RS 96 (CG 95) false h (.lst 96 .own []) (.lst 96 .sh (g.es.map IK))=some (.lst 96 .own ([]++g.es.map IK)):=fun h=>
  Jh (V.PFL _ (Y7 g.es)).clean (all_map Y8 _) (by simp;omega) _ _ _
 simp(disch:=first|assumption|omega|(with_reducible rfl)|(simp only[go_sem];done)|(simp only[go_sem];omega)|fail) only[↓reduceIte,↓AO,Nat.reduceAdd,go_sem,ap]
end
section
open Go AM
theorem AAF (x:Int):Cl 108 [.int .i64 x] []=some (.bool (Gn x),[]):=by
 rw[AEB,Gn]
 repeat' first|rfl|refine SI (fun _=> ?_) (fun _=> ?_)|refine SK (fun _=> ?_) (fun _=> ?_)|simp(disch:=first|assumption|omega|(with_reducible rfl)|(simp only[go_sem];done)|(simp only[go_sem];omega)|fail) only[↓reduceIte,↓AO,Nat.reduceAdd,go_sem]
 all_goals simp_all
 all_goals (intros;omega)
theorem ZG (b:Bool):Cl 94 [.bool b] []=some (.str (BV (F8 b)),[]):=by
 rw[AH0]
 cases b<;>rfl
theorem ZH {n:Int} (h:I64 n):Cl 93 [.int .i64 n] []=some (.str (BV (Lp n)),[]):=by
 obtain⟨ha,hb⟩:=h
 by_cases h0:0≤n
 ·obtain⟨m,rfl⟩:=Int.eq_ofNat_of_zero_le h0
  have e:Lp (m:Int)=2*m:=by rw[Lp,if_pos h0];omega
  have c:IJ .u64 (.int .i64 (m:Int))=some (.int .u64 (m:Int)):=cvI_u64 (by omega) (by omega)
  have ml:AL .mul (.int .u64 2) (.int .u64 (m:Int))=some (.int .u64 ((2*m:Nat):Int)):=AFm (a:=2) (c:=m) (by omega)
  have r:=H6 (n:=2*m) (by omega)
  rw[e,ABY]
  generalize BV (2*m)=x at*
  generalize 2*m=y at*
  simp(disch:=first|assumption|omega|(with_reducible rfl)|(simp only[go_sem];done)|(simp only[go_sem];omega)|fail) only[↓reduceIte,↓AO,Nat.reduceAdd,go_sem,c,ml,r]
 ·obtain⟨m,hm⟩:=Int.eq_ofNat_of_zero_le (show 0≤ -1-n by omega)
  have e:Lp n=2*m+1:=by rw[Lp,if_neg h0];omega
  have sb:AL .sub (.int .i64 (-1)) (.int .i64 n)=some (.int .i64 (m:Int)):=by rw[JX,wrap_i64 (by omega) (by omega),hm]
  have c:IJ .u64 (.int .i64 (m:Int))=some (.int .u64 (m:Int)):=cvI_u64 (by omega) (by omega)
  have ml:AL .mul (.int .u64 2) (.int .u64 (m:Int))=some (.int .u64 ((2*m:Nat):Int)):=AFm (a:=2) (c:=m) (by omega)
  have ad:AL .add (.int .u64 ((2*m:Nat):Int)) (.int .u64 1)=some (.int .u64 ((2*m+1:Nat):Int)):=by rw[FB,wrap_u64 (by omega) (by omega)];rfl
  have r:=H6 (n:=2*m+1) (by omega)
  rw[e,ABY]
  generalize BV (2*m+1)=x at*
  generalize 2*m+1=z at*
  generalize 2*m=y at*
  simp(disch:=first|assumption|omega|(with_reducible rfl)|(simp only[go_sem];done)|(simp only[go_sem];omega)|fail) only[↓reduceIte,↓AO,Nat.reduceAdd,go_sem,sb,c,ml,ad,r]
theorem ACZ (x:Vtx):Cl 92 [BG x] []=some (.bool (E5 x),[]):=by
 have hg:=fun n=>AAF n
 rw[AHz,E5]
 simp only[BG]
 repeat' first|rfl|refine SI (fun _=> ?_) (fun _=> ?_)|refine SK (fun _=> ?_) (fun _=> ?_)|simp(disch:=first|assumption|omega|(with_reducible rfl)|(simp only[go_sem];done)|(simp only[go_sem];omega)|fail) only[↓reduceIte,↓AO,Nat.reduceAdd,go_sem,hg]
 all_goals simp_all
 all_goals omega
theorem ACa {x:Vtx} (hx:VOk x):Cl 36 [BG x] []=some (.str (vtxB x),[]):=by
 obtain⟨x1,x2,x3⟩:=hx
 have hc:=ACZ x
 by_cases h:E5 x=true
 ·have h0:0≤x.id:=by simp only[E5,Bool.not_eq_true',Bool.or_eq_false_iff,decide_eq_false_iff_not]at h;omega
  have hlt:x.id<18446744073709551616:=by have:=x1.2;omega
  rw[h]at hc
  rw[vtxB,if_pos h,ABH]
  have a:=A7 10 x.id.toNat;have b:=A7 10 (Lp x.val);have c:=A7 10 (Lp x.inn)
  have d:=A7 10 (F8 x.act);have e:=A7 10 (F8 x.has)
  have r1:=H6 (n:=x.id.toNat) (by omega)
  rw[show(x.id.toNat:Int)=x.id by omega]at r1
  have r2:=ZH x2
  have r3:=ZG x.act
  have r4:=ZG x.has
  have r5:=ZH x3
  have cv:=cvI_u64 (k:= .i64) h0 hlt
  change (BV x.id.toNat).length≤10 at a
  change (BV (Lp x.val)).length≤10 at b
  change (BV (Lp x.inn)).length≤10 at c
  change (BV (F8 x.act)).length≤10 at d
  change (BV (F8 x.has)).length≤10 at e
  simp only[BG]at hc⊢
  generalize BV x.id.toNat=n1 at*
  generalize BV (Lp x.val)=n2 at*
  generalize BV (F8 x.act)=n3 at*
  generalize BV (F8 x.has)=n4 at*
  generalize BV (Lp x.inn)=n5 at*
  have s1:=QR n1 n2 (by omega)
  have s2:=QR (n1++n2) n3 (by simp only[List.length_append];omega)
  have s3:=QR (n1++n2++n3) n4 (by simp only[List.length_append];omega)
  have s4:=QR (n1++n2++n3++n4) n5 (by simp only[List.length_append];omega)
  simp only[List.append_assoc]at s1 s2 s3 s4⊢
  simp(disch:=first|assumption|omega|(with_reducible rfl)|(simp only[go_sem];done)|(simp only[go_sem];omega)|fail) only[↓reduceIte,↓AO,Nat.reduceAdd,go_sem,hc,r1,r2,r3,r4,r5,cv,s1,s2,s3,s4]
 ·rw[Bool.not_eq_true]at h
  rw[h]at hc
  rw[vtxB,if_neg (by simp[h]),ABH]
  simp only[BG]at hc⊢
  simp(disch:=first|assumption|omega|(with_reducible rfl)|(simp only[go_sem];done)|(simp only[go_sem];omega)|fail) only[↓reduceIte,↓AO,Nat.reduceAdd,go_sem,hc]
theorem ACb {l:List Vtx} (hl:∀x∈l,VOk x) (hn:l.length≤1000000) (f:Fl) (hf:f= .own∨f= .nil∨f= .sh):∀(n i:Nat),i+n=l.length→
 RZ (.lst 86 f (l.map BG)) (.lst 9 .own (((l.take i).map vtxB).map V.str)) (.int .i64 (i:Int))=some (.lst 9 .sh ((l.map vtxB).map V.str),[]):=by
 intro n
 induction n with
 |zero=>
  intro i hi
  rw[List.take_of_length_le (by omega),QL]
  generalize l.map vtxB=r
  rcases hf with rfl|rfl|rfl
  all_goals simp(disch:=first|assumption|omega|(with_reducible rfl)|(simp only[go_sem];done)|(simp only[go_sem];omega)|fail) only[↓reduceIte,↓AO,Nat.reduceAdd,go_sem]
 |succ n ih=>
  intro i hi
  have h:i<l.length:=by omega
  have hr:=ACa (hl _ (List.getElem_mem h))
  have:=ih (i+1) (by omega)
  rw[←List.take_append_getElem h,List.map_append,List.map_append]at this
  simp only[List.map_cons,List.map_nil]at this
  have hx:=AG0 h
  rw[←this,QL]
  generalize l[i]=x at*
  generalize vtxB x=b at*
  have hrl:((l.take i).map vtxB).length≤1000000:=by rw[List.length_map,List.length_take];omega
  generalize (l.take i).map vtxB=r at*
  rcases hf with rfl|rfl|rfl
  all_goals simp(disch:=first|assumption|omega|(with_reducible rfl)|(simp only[go_sem];done)|(simp only[go_sem];omega)|fail) only[↓reduceIte,↓AO,Nat.reduceAdd,go_sem,hx,hr]
theorem VZ {l:List Vtx} (hl:∀x∈l,VOk x) (hn:l.length≤1000000) (f:Fl) (hf:f= .own∨f= .nil∨f= .sh):Cl 66 [.lst 86 f (l.map BG)] []=some (.lst 9 .sh ((l.map vtxB).map V.str),[]):=by
 have h:=ACb hl hn f hf l.length 0 (by omega)
 rw[List.take_zero]at h
 simp only[List.map_nil,c0]at h
 rw[←h,AHp]
 simp(disch:=first|assumption|omega|(with_reducible rfl)|(simp only[go_sem];done)|(simp only[go_sem];omega)|fail) only[↓reduceIte,↓AO,Nat.reduceAdd,go_sem]
theorem AAG {l:List Vtx} (hl:∀x∈l,VOk x) (hn:l.length≤1000000) (f:Fl) (hf:f= .nil∨f= .sh):Cl 29 [.lst 86 f (l.map BG)] []=some (BH (vrootB l),[]):=by
 have h:=VZ hl hn .sh (Or.inr (Or.inr rfl))
 have h2:=VZ hl hn .nil (Or.inr (Or.inl rfl))
 have r:=VT (g:= .sh) (l:=l.map vtxB) (by rw[List.length_map];omega) (ACU l)
 rw[vrootB,AHh]
 generalize ZE (l.map vtxB)=b at*
 rw[I9]
 rcases hf with rfl|rfl
 all_goals simp(disch:=first|assumption|omega|(with_reducible rfl)|(simp only[go_sem];done)|(simp only[go_sem];omega)|fail) only[↓reduceIte,↓AO,Nat.reduceAdd,go_sem,h,h2,r]
 all_goals rfl
end
section
open Go AM
abbrev zVx:V:= .agg tVx [.int .i64 0,.int .i64 0,.bool false,.bool false,.int .i64 0]
def EH (n:Nat) (j:Job):List Vtx:=(List.range n).map fun(v:Nat)=>firstX j (v:Int)
theorem ACc {g:Grf} {j:Job} {n:Nat} (hn:n≤64):∀(m i:Nat),i+m=n→
 RX (.ref 1 [] 26) (.win 2 [] 0 n 86) (.int .i64 (n:Int)) (.int .i64 (i:Int)) [vG .sh g,vJ j,.row 86 ((EH i j).map BG++List.replicate m zVx)]=some (.tup [.lst 86 .sh ((EH n j).map BG),.int .i64 0],[]):=by
 intro m
 have hlen:∀i,(EH i j).length=i:=fun i=>by simp[EH]
 induction m with
 |zero=>
  intro i hi
  obtain rfl:i=n:=by omega
  have ls:AL .lss (.int .i64 (i:Int)) (.int .i64 (i:Int))=some (.bool false):=by rw[b_lss,decide_eq_false (by omega)]
  have pl:=SY (EH i j)
  have ct:Ad [vG .sh g,vJ j,.row 86 ((EH i j).map BG)] (.win 2 [] 0 i 86)=some ((EH i j).map BG):=by
   simp only[Ad,rd,List.getElem?_cons_zero,List.getElem?_cons_succ,Option.bind_some,V.at,V.items,Option.map_some,List.drop_zero]
   rw[List.take_of_length_le (by simp[hlen])]
  have fn:AV 0 [vG .sh g,vJ j,.row 86 ((EH i j).map BG)] (.tup [.win 2 [] 0 i 86,.int .i64 0])=some (.tup [.lst 86 .sh ((EH i j).map BG),.int .i64 0],[]):=by
   simp only[AV,V.unmut,CB,ct,Qe pl,VJ pl,if_true]
   rfl
  have ok:List.all [V.int .i64 0,V.win 2 [] 0 i 86] V.okE=true:=rfl
  rw[List.replicate_zero,List.append_nil,QI]
  refine(AB ls _).trans ?_
  refine(Ee _ _).trans ?_
  rw[if_pos ok]
  exact fn
 |succ m ih=>
  intro i hi
  have ls:AL .lss (.int .i64 (i:Int)) (.int .i64 (n:Int))=some (.bool true):=by rw[b_lss,decide_eq_true (by omega)]
  have fi:=VW j (v:=(i:Int)) (by omega) (by omega)
  have xx:Gg 86 (V.weak (.win 2 [] 0 n 86)) (.int .i64 (i:Int))=some (.ref 2 [i] 86):=by
   have hin:inside (i:Int) n=true:=by simp only[inside,Bool.and_eq_true,decide_eq_true_eq];omega
   simp only[V.weak,Gg,hin,Int.toNat_natCast,decide_true,Bool.and_self,if_true,List.nil_append,Nat.zero_add]
  have hset:((EH i j).map BG++List.replicate (m+1) zVx).set i (BG (firstX j (i:Int)))=(EH (i+1) j).map BG++List.replicate m zVx:=by
   rw[List.set_append_right _ _ (by simp[hlen])]
   simp[hlen,EH,List.range_succ,List.replicate_succ]
  have st:FT (CG tVx) 86 [vG .sh g,vJ j,.row 86 ((EH i j).map BG++List.replicate (m+1) zVx)] (.ref 2 [i] 86) (BG (firstX j (i:Int)))=some [vG .sh g,vJ j,.row 86 ((EH (i+1) j).map BG++List.replicate m zVx)]:=by
   rw[AKb (ZC _) rfl]
   simp only[List.getElem?_cons_zero,List.getElem?_cons_succ,Option.bind_some]
   rw[AIY (by simp[hlen]),hset];rfl
  have ad:AL .add (.int .i64 (i:Int)) (.int .i64 1)=some (.int .i64 ((i+1:Nat):Int)):=by rw[FB,wrap_i64 (by omega) (by omega)];rfl
  rw[←ih (i+1) (by omega),QI]
  generalize (EH i j).map BG++List.replicate (m+1) zVx=R at*
  generalize (EH (i+1) j).map BG++List.replicate m zVx=R2 at*
  generalize (i+1:Nat)=i2 at*
  generalize BG (firstX j (i:Int))=y at*
  have rj:∀h:List V,AA h [vJ j,.int .i64 (i:Int)]=[vJ j,.int .i64 (i:Int)]:=fun h=>rfl
  (repeat' with_reducible first|refine(FD _ _).trans ?_|refine(Ee _ _).trans ?_|refine(AO _ _).trans ?_|((first|(refine' (AB ?_ _).trans ?_;rotate_left)|refine(if_pos ?_).trans ?_|refine(DF ?_ _ _).trans ?_);focus (first|rfl|(simp(disch:=first|assumption|omega|with_reducible rfl|(simp only[go_sem]<;>omega)|fail) only[↓reduceIte,↓AO,Nat.reduceAdd,go_sem,Bool.not_true,Bool.not_false,ls,rj,fi,xx,st,ad]<;>first|rfl|omega)|assumption|omega))|(refine(Bq ?_ _ _).trans ?_;focus (first|(simp(disch:=first|assumption|omega|with_reducible rfl|(simp only[go_sem]<;>omega)|fail) only[↓reduceIte,↓AO,Nat.reduceAdd,go_sem,Bool.not_true,Bool.not_false,ls,rj,fi,xx,st,ad]<;>omega)|assumption|omega))|fail)
  rfl
theorem ACd {g:Grf} (hl:g.es.length<1000000) {j:Job} (hj:Ie g j=true):Cl 30 [vG .sh g,vJ j] []=some (.tup [.lst 86 .sh ((EH g.n.toNat j).map BG),.int .i64 0],[]):=by
 have hg':=TA hj
 obtain⟨n,hn⟩:=Int.eq_ofNat_of_zero_le (show 0≤g.n by omega)
 have hc:=Ql hl j
 rw[if_pos hj]at hc
 have lp:=ACc (g:=g) (j:=j) (n:=n) (by omega) n 0 (by omega)
 have mk:mkL 86 zVx (.int .i64 g.n) (.int .i64 g.n)=some (.lst 86 .own (List.replicate n zVx)):=by
  rw[hn];simp only[mkL]
  rw[if_pos (by omega),Int.toNat_natCast]
 have tb:C9 [vG .sh g,vJ j] (.lst 86 .own (List.replicate n zVx))=some (.win 2 [] 0 n 86,[vG .sh g,vJ j,.row 86 (List.replicate n zVx)]):=by
  simp[C9]
 have lw:J8 (V.weak (.win 2 [] 0 n 86))=some (.int .i64 (n:Int)):=rfl
 have e0:(EH 0 j).map BG=[]:=rfl
 rw[e0,List.nil_append]at lp
 rw[show g.n.toNat=n by omega,←lp,AHi]
 generalize List.replicate n zVx=R at*
 simp(disch:=first|assumption|omega|(with_reducible rfl)|(simp only[go_sem];done)|(simp only[go_sem];omega)|fail) only[↓reduceIte,↓AO,Nat.reduceAdd,go_sem,hc,mk,tb,lw]
 rfl
theorem ACe {L:List Vtx} {N w:Nat} (h1:1≤N) (hN:N≤64) (hL:∀x∈L,0≤x.id∧x.id<64) (hn:L.length≤64):∀(m i:Nat) (acc:List Vtx),i+m=L.length→acc.length≤i→
 NI (.lst 86 .sh (L.map BG)) (.int .i64 (N:Int)) (.int .i64 (w:Int)) (.lst 86 .own (acc.map BG)) (.int .i64 (i:Int))=some (.lst 86 .sh ((acc++(L.drop i).filter fun x=>decide (ownN x.id.toNat N=w)).map BG),[]):=by
 intro m
 induction m with
 |zero=>
  intro i acc hi ha
  have ls:AL .lss (.int .i64 (i:Int)) (.int .i64 ((L.map BG).length:Int))=some (.bool false):=by rw[b_lss,List.length_map,decide_eq_false (by omega)]
  rw[List.drop_eq_nil_of_le (by omega),List.filter_nil,List.append_nil,KD]
  clear hL hi
  generalize L.map BG=LL at*
  (repeat' with_reducible first|refine(FD _ _).trans ?_|refine(Ee _ _).trans ?_|refine(AO _ _).trans ?_|((first|(refine' (AB ?_ _).trans ?_;rotate_left)|refine(if_pos ?_).trans ?_|refine(DF ?_ _ _).trans ?_);focus (first|rfl|(simp(disch:=first|assumption|omega|with_reducible rfl|(simp only[go_sem]<;>omega)|fail) only[↓reduceIte,↓AO,Nat.reduceAdd,go_sem,Bool.not_true,Bool.not_false,ls]<;>first|rfl|omega)|assumption|omega))|(refine(Bq ?_ _ _).trans ?_;focus (first|(simp(disch:=first|assumption|omega|with_reducible rfl|(simp only[go_sem]<;>omega)|fail) only[↓reduceIte,↓AO,Nat.reduceAdd,go_sem,Bool.not_true,Bool.not_false,ls]<;>omega)|assumption|omega))|fail)
  rfl
 |succ m ih=>
  intro i acc hi ha
  have h:i<L.length:=by omega
  have ls:AL .lss (.int .i64 (i:Int)) (.int .i64 ((L.map BG).length:Int))=some (.bool true):=by rw[b_lss,List.length_map,decide_eq_true (by omega)]
  have ix:Gg 86 (V.weak (.lst 86 .sh (L.map BG))) (.int .i64 (i:Int))=some (.rop 86 (BG L[i])):=by
   show Gg _ (.lst _ .sh _) _=_
   rw[Ov,List.getElem?_map,List.getElem?_eq_getElem h];rfl
  obtain⟨d0,d64⟩:=hL _ (List.getElem_mem h)
  have ow:=AAA (v:=L[i].id.toNat) (n:=N) (by omega) h1 hN
  rw[show((L[i].id.toNat:Nat):Int)=L[i].id by omega]at ow
  have ad:AL .add (.int .i64 (i:Int)) (.int .i64 1)=some (.int .i64 ((i+1:Nat):Int)):=by rw[FB,wrap_i64 (by omega) (by omega)];rfl
  rw[List.drop_eq_getElem_cons h]
  have fI:∀x:Vtx,fA 86 3 0 (.rop 86 (BG x))=some (.rop 3 (.int .i64 x.id)):=fun x=>rfl
  by_cases hw:ownN L[i].id.toNat N=w
  ·have eq:AL .eql (.int .i64 (ownN L[i].id.toNat N:Int)) (.int .i64 (w:Int))=some (.bool true):=by rw[b_eql,decide_eq_true (by omega)]
   have ih':=ih (i+1) (acc++[L[i]]) (by omega) (by simp;omega)
   have ap:∀h:List V,RS 86 (CG tVx) false h (.lst 86 .own (acc.map BG)) (.lst 86 .own [BG L[i]])=some (.lst 86 .own ((acc++[L[i]]).map BG)):=fun h=>by
    have cl:AQ [BG L[i]]=true:=rfl
    have ty:[BG L[i]].all (CG tVx)=true:=rfl
    rw[List.map_append,Jh cl ty (by simp;omega)];rfl
   rw[List.filter_cons_of_pos (by simp[hw]),show acc++L[i]::(L.drop (i+1)).filter (fun x=>decide (ownN x.id.toNat N=w))=acc++[L[i]]++(L.drop (i+1)).filter (fun x=>decide (ownN x.id.toNat N=w))by simp,←ih',KD]
   clear ih ih' hL
   generalize (acc++[L[i]]).map BG=A2 at*
   generalize acc.map BG=A at*
   generalize (ownN L[i].id.toNat N:Int)=o at*
   generalize L[i]=x at*
   generalize (i+1:Nat)=i2 at*
   generalize L.map BG=LL at*
   (repeat' with_reducible first|refine(FD _ _).trans ?_|refine(Ee _ _).trans ?_|refine(AO _ _).trans ?_|((first|(refine' (AB ?_ _).trans ?_;rotate_left)|refine(if_pos ?_).trans ?_|refine(DF ?_ _ _).trans ?_);focus (first|rfl|(simp(disch:=first|assumption|omega|with_reducible rfl|(simp only[go_sem]<;>omega)|fail) only[↓reduceIte,↓AO,Nat.reduceAdd,go_sem,Bool.not_true,Bool.not_false,ls,ix,fI,ow,eq,ap,ad]<;>first|rfl|omega)|assumption|omega))|(refine(Bq ?_ _ _).trans ?_;focus (first|(simp(disch:=first|assumption|omega|with_reducible rfl|(simp only[go_sem]<;>omega)|fail) only[↓reduceIte,↓AO,Nat.reduceAdd,go_sem,Bool.not_true,Bool.not_false,ls,ix,fI,ow,eq,ap,ad]<;>omega)|assumption|omega))|fail)
   rfl
  ·have eq:AL .eql (.int .i64 (ownN L[i].id.toNat N:Int)) (.int .i64 (w:Int))=some (.bool false):=by rw[b_eql,decide_eq_false (by omega)]
   have ih':=ih (i+1) acc (by omega) (by omega)
   rw[List.filter_cons_of_neg (by simp[hw]),←ih',KD]
   clear ih ih' hL
   generalize acc.map BG=A at*
   generalize (ownN L[i].id.toNat N:Int)=o at*
   generalize L[i]=x at*
   generalize (i+1:Nat)=i2 at*
   generalize L.map BG=LL at*
   (repeat' with_reducible first|refine(FD _ _).trans ?_|refine(Ee _ _).trans ?_|refine(AO _ _).trans ?_|((first|(refine' (AB ?_ _).trans ?_;rotate_left)|refine(if_pos ?_).trans ?_|refine(DF ?_ _ _).trans ?_);focus (first|rfl|(simp(disch:=first|assumption|omega|with_reducible rfl|(simp only[go_sem]<;>omega)|fail) only[↓reduceIte,↓AO,Nat.reduceAdd,go_sem,Bool.not_true,Bool.not_false,ls,ix,fI,ow,eq,ad]<;>first|rfl|omega)|assumption|omega))|(refine(Bq ?_ _ _).trans ?_;focus (first|(simp(disch:=first|assumption|omega|with_reducible rfl|(simp only[go_sem]<;>omega)|fail) only[↓reduceIte,↓AO,Nat.reduceAdd,go_sem,Bool.not_true,Bool.not_false,ls,ix,fI,ow,eq,ad]<;>omega)|assumption|omega))|fail)
   rfl
theorem Qm {j:Job} (hk:EO j.tag=true) (v:Int):(firstX j v).id=v:=by
 unfold firstX
 rw[if_pos hk]
theorem ACf (n:Nat) (j:Job):(EH n j).length=n:=by simp[EH]
theorem ACg {g:Grf} {j:Job} (hk:EO j.tag=true) {n N w:Nat} (hg:g.n.toNat=n):(EH n j).filter (fun x=>decide (ownN x.id.toNat N=w))=JA g j N w:=by
 have e:∀v:Nat,decide (ownN (firstX j (v:Int)).id.toNat N=w)=decide (ownN v N=w):=fun v=>by rw[Qm hk,Int.toNat_natCast]
 unfold EH JA ofL
 rw[hg]
 generalize List.range n=R
 clear hg
 generalize hF:(fun(v:Nat)=>firstX j (v:Int))=F
 have e':∀v:Nat,decide (ownN (F v).id.toNat N=w)=decide (ownN v N=w):=fun v=>by rw[←hF];exact e v
 clear hF e
 induction R with
 |nil=>rfl
 |cons v R ih=>
  rw[List.map_cons,List.filter_cons,List.filter_cons,e',ih]
  by_cases h:decide (ownN v N=w)=true
  ·rw[if_pos h,if_pos h,List.map_cons]
  ·rw[if_neg h,if_neg h]
theorem ACh {j:Job} (hk:EO j.tag=true) {n:Nat} (hn:n≤64):∀x∈EH n j,0≤x.id∧x.id<64:=fun x hx=>by
 obtain⟨v,hv,rfl⟩:=List.mem_map.1 hx
 have:=List.mem_range.1 hv
 rw[Qm hk];omega
theorem AFs {g:Grf} {j:Job} (hk:EO j.tag=true) {n N w:Nat} (hn:n≤64) (h1:1≤N) (hN:N≤64) (hg:g.n.toNat=n):Cl 31 [.lst 86 .sh ((EH n j).map BG),.int .i64 (N:Int),.int .i64 (w:Int)] []=some (.lst 86 .sh ((JA g j N w).map BG),[]):=by
 have hr:=ACh hk hn
 have hl:=ACf n j
 rw[←ACg hk hg]
 generalize EH n j=L at*
 have lp:=ACe (L:=L) (N:=N) (w:=w) h1 hN hr (by omega) L.length 0 [] (by omega) (Nat.le_refl 0)
 rw[List.drop_zero,List.nil_append,List.map_nil]at lp
 rw[←lp,AHj]
 clear lp hr hl
 generalize L.map BG=M
 (repeat' with_reducible first|refine(FD _ _).trans ?_|refine(Ee _ _).trans ?_|refine(AO _ _).trans ?_|((first|(refine' (AB ?_ _).trans ?_;rotate_left)|refine(if_pos ?_).trans ?_|refine(DF ?_ _ _).trans ?_);focus (first|rfl|(simp(disch:=first|assumption|omega|with_reducible rfl|(simp only[go_sem]<;>omega)|fail) only[↓reduceIte,↓AO,Nat.reduceAdd,go_sem,Bool.not_true,Bool.not_false]<;>first|rfl|omega)|assumption|omega))|(refine(Bq ?_ _ _).trans ?_;focus (first|(simp(disch:=first|assumption|omega|with_reducible rfl|(simp only[go_sem]<;>omega)|fail) only[↓reduceIte,↓AO,Nat.reduceAdd,go_sem,Bool.not_true,Bool.not_false]<;>omega)|assumption|omega))|fail)
 rfl
theorem AAH {l:List Vtx} (hn:l.length≤1000000):∀(m i:Nat),i+m=l.length→RV (.lst 86 .sh (l.map BG)) (.lst 86 .sh (l.map BG)) (.int .i64 (i:Int))=some (.bool true,[]):=by
 intro m
 induction m with
 |zero=>
  intro i hi
  have ls:AL .lss (.int .i64 (i:Int)) (.int .i64 ((l.map BG).length:Int))=some (.bool false):=by rw[b_lss,List.length_map,decide_eq_false (by omega)]
  rw[QH]
  generalize l.map BG=L at*
  (repeat' with_reducible first|refine(FD _ _).trans ?_|refine(Ee _ _).trans ?_|refine(AO _ _).trans ?_|((first|(refine' (AB ?_ _).trans ?_;rotate_left)|refine(if_pos ?_).trans ?_|refine(DF ?_ _ _).trans ?_);focus (first|rfl|(simp(disch:=first|assumption|omega|with_reducible rfl|(simp only[go_sem]<;>omega)|fail) only[↓reduceIte,↓AO,Nat.reduceAdd,go_sem,Bool.not_true,Bool.not_false,ls]<;>first|rfl|omega)|assumption|omega))|(refine(Bq ?_ _ _).trans ?_;focus (first|(simp(disch:=first|assumption|omega|with_reducible rfl|(simp only[go_sem]<;>omega)|fail) only[↓reduceIte,↓AO,Nat.reduceAdd,go_sem,Bool.not_true,Bool.not_false,ls]<;>omega)|assumption|omega))|fail)
  rfl
 |succ m ih=>
  intro i hi
  have h:i<l.length:=by omega
  have ls:AL .lss (.int .i64 (i:Int)) (.int .i64 ((l.map BG).length:Int))=some (.bool true):=by rw[b_lss,List.length_map,decide_eq_true (by omega)]
  have ix:Gg 86 (V.weak (.lst 86 .sh (l.map BG))) (.int .i64 (i:Int))=some (.rop 86 (BG l[i])):=by
   show Gg _ (.lst _ .sh _) _=_
   rw[Ov,List.getElem?_map,List.getElem?_eq_getElem h];rfl
  have ad:AL .add (.int .i64 (i:Int)) (.int .i64 1)=some (.int .i64 ((i+1:Nat):Int)):=by rw[FB,wrap_i64 (by omega) (by omega)];rfl
  have ne:Xn (CG tVx) .neq (BG l[i]) (BG l[i])=some (.bool false):=by
   simp[Xn,CG,BG,JL,J9]
  have ld:∀x:Vtx,AZ [] 86 (.rop 86 (BG x))=some (BG x):=fun x=>by simp only[AZ,if_true]
  rw[←ih (i+1) (by omega),QH]
  clear ih
  generalize BG l[i]=x at*
  generalize (i+1:Nat)=i2 at*
  generalize l.map BG=L at*
  have ld':AZ [] 86 (.rop 86 x)=some x:=by simp only[AZ,if_true]
  (repeat' with_reducible first|refine(FD _ _).trans ?_|refine(Ee _ _).trans ?_|refine(AO _ _).trans ?_|((first|(refine' (AB ?_ _).trans ?_;rotate_left)|refine(if_pos ?_).trans ?_|refine(DF ?_ _ _).trans ?_);focus (first|rfl|(simp(disch:=first|assumption|omega|with_reducible rfl|(simp only[go_sem]<;>omega)|fail) only[↓reduceIte,↓AO,Nat.reduceAdd,go_sem,Bool.not_true,Bool.not_false,ls,ix,ld',ne,ad]<;>first|rfl|omega)|assumption|omega))|(refine(Bq ?_ _ _).trans ?_;focus (first|(simp(disch:=first|assumption|omega|with_reducible rfl|(simp only[go_sem]<;>omega)|fail) only[↓reduceIte,↓AO,Nat.reduceAdd,go_sem,Bool.not_true,Bool.not_false,ls,ix,ld',ne,ad]<;>omega)|assumption|omega))|fail)
  rfl
theorem AAI {l:List Vtx} (hn:l.length≤1000000):Cl 26 [.lst 86 .sh (l.map BG),.lst 86 .sh (l.map BG)] []=some (.bool true,[]):=by
 have lp:=AAH hn l.length 0 (by omega)
 have ne:AL .neq (.int .i64 ((l.map BG).length:Int)) (.int .i64 ((l.map BG).length:Int))=some (.bool false):=by rw[b_neq];simp
 rw[←lp,AHe]
 clear lp
 generalize l.map BG=L at*
 (repeat' with_reducible first|refine(FD _ _).trans ?_|refine(Ee _ _).trans ?_|refine(AO _ _).trans ?_|((first|(refine' (AB ?_ _).trans ?_;rotate_left)|refine(if_pos ?_).trans ?_|refine(DF ?_ _ _).trans ?_);focus (first|rfl|(simp(disch:=first|assumption|omega|with_reducible rfl|(simp only[go_sem]<;>omega)|fail) only[↓reduceIte,↓AO,Nat.reduceAdd,go_sem,Bool.not_true,Bool.not_false,ne]<;>first|rfl|omega)|assumption|omega))|(refine(Bq ?_ _ _).trans ?_;focus (first|(simp(disch:=first|assumption|omega|with_reducible rfl|(simp only[go_sem]<;>omega)|fail) only[↓reduceIte,↓AO,Nat.reduceAdd,go_sem,Bool.not_true,Bool.not_false,ne]<;>omega)|assumption|omega))|fail)
 rfl
end
section
open Go AM
theorem ACi {f:FuncId} {e:TypeId} (ht:DU.two f=true) (h1:Cl f [.lst e .nil []] []=some (.lst e .sh [],[])) (h2:Cl f [.lst e .non []] []=some (.lst e .sh [],[])):CT f [.lst e .sh []]=some (.lst e .sh [],[]):=by
 show E8 DU W f _=_
 unfold E8
 rw[ht]
 show(Cl f [.lst e .nil []] []).bind _=_
 rw[h1]
 show(Cl f [.lst e .non []] []).bind _=_
 rw[h2]
 show(ABA (.lst e .sh []) (.lst e .sh [])).bind _=_
 simp[ABA]
theorem ZI {f:FuncId} {e:TypeId} {x:V} {xs:List V} (ht:DU.two f=true):CT f [.lst e .sh (x::xs)]=Cl f [.lst e .sh (x::xs)] []:=by
 show E8 DU W f _=_
 unfold E8
 rw[ht];rfl
theorem AAJ {l:List E0} (hl:l.length≤1000000):CT 43 [.lst 96 .sh (l.map IK)]=some (.lst 96 .sh (l.map IK),[]):=by
 cases l with
 |nil=>
  refine ACi (by kernel_rfl) ?_ ?_
  ·rw[WT];rfl
  ·rw[WT];rfl
 |cons x l=>
  rw[List.map_cons,ZI (by kernel_rfl)]
  have ap:∀h:List V,RS 96 (CG 95) false h (.lst 96 .own []) (.lst 96 .sh (IK x::l.map IK))=some (.lst 96 .own ((x::l).map IK)):=fun h=>by
   rw[show IK x::l.map IK=(x::l).map IK from rfl,Jh (V.PFL _ (Y7 (x::l))).clean (all_map Y8 _) (by simp at hl⊢;omega),List.nil_append];rfl
  have en:IQ .eql (.lst 96 .sh (IK x::l.map IK)) (.lst 96 .nil [])=some (.bool false):=rfl
  rw[WT]
  simp(disch:=first|assumption|omega|(with_reducible rfl)|(simp only[go_sem];done)|(simp only[go_sem];omega)|fail) only[↓reduceIte,↓AO,Nat.reduceAdd,go_sem,ap,en]
  rfl
theorem AAK {l:List Vtx} (hl:l.length≤1000000):CT 82 [.lst 86 .sh (l.map BG)]=some (.lst 86 .sh (l.map BG),[]):=by
 cases l with
 |nil=>
  refine ACi (by kernel_rfl) ?_ ?_
  ·rw[WU];rfl
  ·rw[WU];rfl
 |cons x l=>
  rw[List.map_cons,ZI (by kernel_rfl)]
  have ap:∀h:List V,RS 86 (CG tVx) false h (.lst 86 .own []) (.lst 86 .sh (BG x::l.map BG))=some (.lst 86 .own ((x::l).map BG)):=fun h=>by
   rw[show BG x::l.map BG=(x::l).map BG from rfl,Jh (V.PFL _ (SY (x::l))).clean (all_map ZC _) (by simp at hl⊢;omega),List.nil_append];rfl
  have en:IQ .eql (.lst 86 .sh (BG x::l.map BG)) (.lst 86 .nil [])=some (.bool false):=rfl
  rw[WU]
  simp(disch:=first|assumption|omega|(with_reducible rfl)|(simp only[go_sem];done)|(simp only[go_sem];omega)|fail) only[↓reduceIte,↓AO,Nat.reduceAdd,go_sem,ap,en]
  rfl
end
section
open Go AM
abbrev tWk:TypeId:=102
abbrev vWk (g:Grf) (j:Job) (N w:Nat) (f:Fl) (xs:List Vtx):V:= .agg tWk [vG .sh g,vJ j,.int .i64 (N:Int),.int .i64 (w:Int),.int .i64 0,.lst 86 .nil [],.lst 86 f (xs.map BG),.bool false]
section
variable {a b c:V}
end
end
section
open Go AM
section
variable {a b c:V}
end
end
section
open Go AM
section
variable {a b:V}
theorem ACk {g:Grf} {j:Job} {N w:Nat} (ha:Bo 4 [a,b]=true) {L:List Nat} (hL:∀v∈L,v<64) (hn:L.length≤64):∀(n i:Nat) (f:Fl) (xs:List Vtx),i+n=L.length→xs.length=i→(f= .own∨f= .nil)→∃f':Fl,(f'= .own∨f'= .nil)∧
 RU (.ref 3 [] 26) (.ref 4 [] 103) (vNs .sh L) (.int .i64 (L.length:Int)) (.int .i64 (i:Int)) 2 [a,b,vG .sh g,vJ j,vWk g j N w f xs]=
  some (.tup [.ref 4 [] 103,.int .i64 0],[a,b,vG .sh g,vJ j,vWk g j N w f' (xs++(L.drop i).map fun(v:Nat)=>firstX j (v:Int))]):=by
 intro n
 induction n with
 |zero=>
  intro i f xs hi hx hf
  refine⟨f,hf,?_⟩
  have ls:AL .lss (.int .i64 (i:Int)) (.int .i64 (L.length:Int))=some (.bool false):=by rw[b_lss,decide_eq_false (by omega)]
  rw[List.drop_eq_nil_of_le (by omega),List.map_nil,List.append_nil,QG]
  simp(disch:=first|assumption|omega|(with_reducible rfl)|(simp only[go_sem];done)|(simp only[go_sem];omega)|fail) only[↓reduceIte,↓AO,Nat.reduceAdd,go_sem,ls]
  rfl
 |succ n ih=>
  intro i f xs hi hx hf
  have h:i<L.length:=by omega
  have hv:=hL _ (List.getElem_mem h)
  obtain⟨f',hf',ih'⟩:=ih (i+1) .own (xs++[firstX j (L[i]:Int)]) (by omega) (by simp;omega) (Or.inl rfl)
  refine⟨f',hf',?_⟩
  have ls:AL .lss (.int .i64 (i:Int)) (.int .i64 (L.length:Int))=some (.bool true):=by rw[b_lss,decide_eq_true (by omega)]
  have ix:Gg 3 (vNs .sh L) (.int .i64 (i:Int))=some (.rop 3 (.int .i64 (L[i]:Int))):=by
   rw[vNs,Ov,List.getElem?_map,List.getElem?_eq_getElem h];rfl
  have hfi:=VW j (v:=(L[i]:Int)) (by omega) (by omega)
  have ad:AL .add (.int .i64 (i:Int)) (.int .i64 1)=some (.int .i64 ((i+1:Nat):Int)):=by rw[FB,wrap_i64 (by omega) (by omega)];rfl
  have pg:(vG .sh g).pl=true:=by simp only[go_sem]
  have aw:∀v:V,Bo 4 ([a,b,vG .sh g,vJ j,v].set 4 void)=true:=by
   intro v
   simp only[Bo,Bool.and_eq_true]at ha
   simp only[List.set_cons_succ,List.set_cons_zero,Bo,ha.1,ha.2.1,(V.PF _ pg).away];rfl
  have rj:∀h:List V,AA h [vJ j,.int .i64 (L[i]:Int)]=[vJ j,.int .i64 (L[i]:Int)]:=fun h=>rfl
  have cf:∀(v:V) (k:V→List V→Rv),EQ P DU W (some (.ref 4 [] 103)) (.clo 44 []) [vJ j,.int .i64 (L[i]:Int)] [a,b,vG .sh g,vJ j,v] k=k (BG (firstX j (L[i]:Int))) [a,b,vG .sh g,vJ j,v]:=
   fun v k=>XB (by kernel_rfl) (by kernel_rfl) (v:=v) rfl (aw v) rfl (rj _) ((V.PF _ (AIe _)).away 4) hfi k
  have tk:∀(y0 y1 y2 y3 y4 y5 y7:V) (q:Fl) (R:List V),CU [a,b,vG .sh g,vJ j,.agg tWk [y0,y1,y2,y3,y4,y5,.lst 86 q R,y7]] 35 (.ref 4 [6] 35)=some (.lst 86 q R,[a,b,vG .sh g,vJ j,.agg tWk [y0,y1,y2,y3,y4,y5,.lst 86 q.wk R,y7]]):=
   fun y0 y1 y2 y3 y4 y5 y7 q R=>ACW (h:=[a,b,vG .sh g,vJ j,.agg tWk [y0,y1,y2,y3,y4,y5,.lst 86 q R,y7]]) (id:=4) rfl rfl
  have sb6:∀p t,Ky (.ref 4 [] 103) (.ref 4 p t)=true:=fun _ _=>rfl
  have sb4:Ky (.ref 3 [] 26) (.ref 3 [] 26)=true:=rfl
  have df:(Tc (.ref 4 [] 103) (.ref 3 [] 26)&&true)=true:=rfl
  have nn:BJ (.ref 4 [] 103)=some (.ref 4 [] 103):=rfl
  have ap:∀h:List V,RS 86 (CG tVx) false h (.lst 86 f (xs.map BG)) (.lst 86 .own [BG (firstX j (L[i]:Int))])=some (.lst 86 .own ((xs++[firstX j (L[i]:Int)]).map BG)):=fun h=>by
   have cl:AQ [BG (firstX j (L[i]:Int))]=true:=rfl
   have ty:[BG (firstX j (L[i]:Int))].all (CG tVx)=true:=rfl
   rw[List.map_append]
   rcases hf with rfl|rfl
   ·rw[Jh cl ty (by simp;omega)];rfl
   ·rw[AB7 cl ty (by simp;omega)];rfl
  have e:xs++(L.drop i).map (fun(v:Nat)=>firstX j (v:Int))=xs++[firstX j (L[i]:Int)]++(L.drop (i+1)).map (fun(v:Nat)=>firstX j (v:Int)):=by
   rw[List.drop_eq_getElem_cons h,List.map_cons,List.append_assoc];rfl
  rw[e,←ih',QG]
  clear ih ih' e aw hL hfi
  generalize firstX j (L[i]:Int)=y at*
  generalize (L[i]:Int)=z at*
  generalize (i+1:Nat)=i2 at*
  generalize (L.length:Int)=ll at*
  generalize vNs .sh L=LL at*
  rcases hf with rfl|rfl
  all_goals (repeat' with_reducible first|refine(FD _ _).trans ?_|refine(Ee _ _).trans ?_|refine(AO _ _).trans ?_|((first|(refine' (AB ?_ _).trans ?_;rotate_left)|refine(if_pos ?_).trans ?_|refine(DF ?_ _ _).trans ?_);focus (first|rfl|(simp(disch:=first|assumption|omega|with_reducible rfl|(simp only[go_sem]<;>omega)|fail) only[↓reduceIte,↓AO,Nat.reduceAdd,go_sem,Bool.not_true,Bool.not_false,ls,ix,df,nn,sb6,tk,sb4,rj,SG,SH]<;>first|rfl|omega)|assumption|omega))|(refine(Bq ?_ _ _).trans ?_;focus (first|(simp(disch:=first|assumption|omega|with_reducible rfl|(simp only[go_sem]<;>omega)|fail) only[↓reduceIte,↓AO,Nat.reduceAdd,go_sem,Bool.not_true,Bool.not_false,ls,ix,df,nn,sb6,tk,sb4,rj,SG,SH]<;>omega)|assumption|omega))|fail)
  all_goals refine(cf _ _).trans ?_
  all_goals (repeat' with_reducible first|refine(FD _ _).trans ?_|refine(Ee _ _).trans ?_|refine(AO _ _).trans ?_|((first|(refine' (AB ?_ _).trans ?_;rotate_left)|refine(if_pos ?_).trans ?_|refine(DF ?_ _ _).trans ?_);focus (first|rfl|(simp(disch:=first|assumption|omega|with_reducible rfl|(simp only[go_sem]<;>omega)|fail) only[↓reduceIte,↓AO,Nat.reduceAdd,go_sem,Bool.not_true,Bool.not_false,ap,nn,ad]<;>first|rfl|omega)|assumption|omega))|(refine(Bq ?_ _ _).trans ?_;focus (first|(simp(disch:=first|assumption|omega|with_reducible rfl|(simp only[go_sem]<;>omega)|fail) only[↓reduceIte,↓AO,Nat.reduceAdd,go_sem,Bool.not_true,Bool.not_false,ap,nn,ad]<;>omega)|assumption|omega))|fail)
  all_goals rfl
end
section
variable {a b:V}
theorem ACl {g:Grf} (hl:g.es.length<1000000) {j:Job} (hj:Ie g j=true) {N w:Nat} (h1:1≤N) (hN:N≤64) (hw:w<N) (ha:Bo 4 [a,b]=true):∃f':Fl,(f'= .own∨f'= .nil)∧
 Cl 11 [vG .sh g,vJ j,.int .i64 (N:Int),.int .i64 (w:Int)] [a,b]=some (.tup [.ref 4 [] 103,.int .i64 0],[a,b,vG .sh g,vJ j,vWk g j N w f' (JA g j N w)]):=by
 have hg':=TA hj
 have hlen:=S9 g.n.toNat N w
 obtain⟨f',hf',lp⟩:=ACk (g:=g) (j:=j) (N:=N) (w:=w) ha (L:=ofL g.n.toNat N w) (fun v hv=>by have:=ACM hv;omega) (by omega) (ofL g.n.toNat N w).length 0 .nil [] (by omega) rfl (Or.inr rfl)
 refine⟨f',hf',?_⟩
 rw[List.drop_zero,List.nil_append]at lp
 have hc:=Ql hl j
 rw[if_pos hj]at hc
 have hof:=AIq (n:=g.n.toNat) (N:=N) (w:=w) (by omega) (by omega) (by omega) hN hw
 rw[show(g.n.toNat:Int)=g.n by omega]at hof
 have ce:=AAJ (l:=g.es) (by omega)
 rw[show JA g j N w=(ofL g.n.toNat N w).map (fun(v:Nat)=>firstX j (v:Int))from rfl,←lp,AHZ]
 have lL:J8 (vNs .sh (ofL g.n.toNat N w))=some (.int .i64 ((ofL g.n.toNat N w).length:Int)):=by show some _=_;rw[List.length_map]
 clear lp hlen
 generalize ofL g.n.toNat N w=L at*
 simp(disch:=first|assumption|omega|(with_reducible rfl)|(simp only[go_sem];done)|(simp only[go_sem];omega)|fail) only[↓reduceIte,↓AO,Nat.reduceAdd,go_sem,hc,hof,ce,lL]
 rfl
abbrev zOp:V:= .agg 50 [.int .i64 0,.str [],.str [],.lst 66 .sh [],.lst 66 .sh []]
theorem AAL {g:Grf} {j:Job} {N w:Nat} {xs:List Vtx} {f:Fl} (y0 y1 y2 y3:V) (p:Int):
 Cl 18 [.ref 4 [] 103,.int .i64 p] [y0,y1,y2,y3,vWk g j N w f xs]=some (.tup [zOp,.int .i64 30],[y0,y1,y2,y3,vWk g j N w f xs]):=by
 have nn:BJ (.ref 4 [] 103)=some (.ref 4 [] 103):=rfl
 rw[AHc]
 simp(disch:=first|assumption|omega|(with_reducible rfl)|(simp only[go_sem];done)|(simp only[go_sem];omega)|fail) only[↓reduceIte,↓AO,Nat.reduceAdd,go_sem,nn]
theorem XC {g:Grf} {j:Job} {N w:Nat} {xs:List Vtx} (hn:xs.length≤1000000) {f:Fl} (hf:f= .own∨f= .nil) (y0 y1 y2 y3:V):
 Cl 27 [.ref 4 [] 103] [y0,y1,y2,y3,vWk g j N w f xs]=some (.lst 86 .sh (xs.map BG),[y0,y1,y2,y3,vWk g j N w f xs]):=by
 have hR:=AAK hn
 have rv:∀h,AA h [.lst 86 f.wk (xs.map BG)]=[.lst 86 .sh (xs.map BG)]:=fun h=>by rcases hf with rfl|rfl<;>rfl
 have nn:BJ (.ref 4 [] 103)=some (.ref 4 [] 103):=rfl
 rw[AHf]
 rcases hf with rfl|rfl
 all_goals simp only[SG,SH]at rv
 all_goals simp(disch:=first|assumption|omega|(with_reducible rfl)|(simp only[go_sem];done)|(simp only[go_sem];omega)|fail) only[↓reduceIte,↓AO,Nat.reduceAdd,go_sem,hR,rv,nn]
theorem XD {g:Grf} {j:Job} {N w:Nat} {xs:List Vtx} (hx:∀x∈xs,VOk x) (hn:xs.length≤1000000) {f:Fl} (hf:f= .own∨f= .nil) (y0 y1 y2 y3 y5:V):
 Cl 28 [.ref 4 [] 103] [y0,y1,y2,y3,vWk g j N w f xs,y5]=some (BH (vrootB xs),[y0,y1,y2,y3,vWk g j N w f xs,y5]):=by
 have hR:=ACV hx hn .sh
 have rv:∀h,AA h [.lst 86 f.wk (xs.map BG)]=[.lst 86 .sh (xs.map BG)]:=fun h=>by rcases hf with rfl|rfl<;>rfl
 have l3:=KO xs
 have nn:BJ (.ref 4 [] 103)=some (.ref 4 [] 103):=rfl
 rw[AHg,AFk]
 generalize vrootB xs=r at*
 rcases hf with rfl|rfl
 all_goals simp only[SG,SH]at rv
 all_goals simp(disch:=first|assumption|omega|(with_reducible rfl)|(simp only[go_sem];done)|(simp only[go_sem];omega)|fail) only[↓reduceIte,↓AO,Nat.reduceAdd,go_sem,hR,rv,nn]
theorem XE {g:Grf} {j:Job} {N w:Nat} {xs:List Vtx} {f:Fl} (y0 y1 y2 y3 y5:V):
 Cl 25 [.ref 4 [] 103] [y0,y1,y2,y3,vWk g j N w f xs,y5]=some (.int .i64 0,[y0,y1,y2,y3,vWk g j N w f xs,y5]):=by
 have nn:BJ (.ref 4 [] 103)=some (.ref 4 [] 103):=rfl
 rw[AHd]
 simp(disch:=first|assumption|omega|(with_reducible rfl)|(simp only[go_sem];done)|(simp only[go_sem];omega)|fail) only[↓reduceIte,↓AO,Nat.reduceAdd,go_sem,nn]
end
end
section
namespace AM
open Go
mutual
def Qn (P:Program) (A:Ann) (Q:FuncId→List V→List V→Option (V×List V)):Nat→FuncId→List V→List V→Option (V×List V)
 |0,_,_,_=>none
 |k+1,f,vs,h=>match Q f vs h with
  |some r=>some r
  |none=>body P A ⟨Qn P A Q k,Qo P A Q k⟩ f vs h
def Qo (P:Program) (A:Ann) (Q:FuncId→List V→List V→Option (V×List V)):Nat→FuncId→Nat→Code→St→Option (Ex×St)
 |0,_,_,_,_=>none
 |k+1,fn,blk,b,st=>round P A ⟨Qn P A Q k,Qo P A Q k⟩ fn blk b st
end
theorem Orc.le.limO {O O':Orc} (hl:Orc.le O O'):LimO (fun n=>if n=0 then O else O') O':=by
 constructor
 ·intro f vs h
  refine⟨fun n r hr=> ?_,fun r=>⟨fun hr=>⟨1,by simpa using hr⟩,fun⟨n,hn⟩=> ?_⟩⟩
  ·by_cases h0:n=0
   ·subst h0;simpa using hl.1 _ _ _ _ (by simpa using hr)
   ·simpa [h0]using hr
  ·by_cases h0:n=0
   ·subst h0;exact hl.1 _ _ _ _ (by simpa using hn)
   ·simpa [h0]using hn
 ·intro fn blk b st
  refine⟨fun n r hr=> ?_,fun r=>⟨fun hr=>⟨1,by simpa using hr⟩,fun⟨n,hn⟩=> ?_⟩⟩
  ·by_cases h0:n=0
   ·subst h0;simpa using hl.2 _ _ _ _ _ (by simpa using hr)
   ·simpa [h0]using hr
  ·by_cases h0:n=0
   ·subst h0;exact hl.2 _ _ _ _ _ (by simpa using hn)
   ·simpa [h0]using hn
theorem Ap {P:Program} {A:Ann} {Q:FuncId→List V→List V→Option (V×List V)} (hQ:∀f vs h r,Q f vs h=some r→GK P A f vs h=some r) (k:Nat):
 (∀f vs h r,Qn P A Q k f vs h=some r→GK P A f vs h=some r)∧(∀fn blk b st r,Qo P A Q k fn blk b st=some r→QD P A fn blk b st=some r):=by
 induction k with
 |zero=>exact⟨fun _ _ _ _ h=>by simp[Qn]at h,fun _ _ _ _ _ h=>by simp[Qo]at h⟩
 |succ k ih=>
  have hl:Orc.le ⟨Qn P A Q k,Qo P A Q k⟩ (GZ P A):=ih
  constructor
  ·intro f vs h r hr
   simp only[Qn]at hr
   split at hr
   ·rename_i e;rw[←Option.some.inj hr];exact hQ _ _ _ _ e
   ·rw[Ti]
    have:=(NG (P:=P) (A:=A) hl.limO f vs h).up 0 r (by simpa using hr)
    simpa using this
  ·intro fn blk b st r hr
   simp only[Qo]at hr
   rw[Tj]
   have:=(KC (P:=P) (A:=A) hl.limO fn blk b st).up 0 r (by simpa using hr)
   simpa using this
end AM
end
section
open Go AM
def ACm:List V→Option (List UInt8)
 |[]=>some []
 | .int .u8 (.ofNat n)::l=>if n<256 then(ACm l).map (UInt8.ofNat n::·)else none
 |_=>none
def ACn:List V→Option (List (Fl×List UInt8))
 |[]=>some []
 | .lst e f xs::l=>if e=5 then(ACm xs).bind fun b=>(ACn l).map ((f,b)::·)else none
 |_=>none
theorem ZJ:∀(xs:List V) (l:List UInt8),ACm xs=some l→xs=bytesOf l
 |[],l,h=>by simp[ACm]at h;subst h;rfl
 |x::xs,l,h=>by
  unfold ACm at h
  split at h
  ·rename_i e;exact absurd e (by simp)
  ·rename_i n l' e
   cases e
   split at h
   ·rename_i hn
    obtain⟨l',h1,rfl⟩:=Option.map_eq_some_iff.1 h
    rw[ZJ xs l' h1]
    simp[bytesOf,Nat.mod_eq_of_lt hn]
   ·cases h
  ·cases h
theorem ZK:∀(xs:List V) (L:List (Fl×List UInt8)),ACn xs=some L→xs=parts L
 |[],l,h=>by simp[ACn]at h;subst h;rfl
 |x::xs,l,h=>by
  unfold ACn at h
  split at h
  ·rename_i e;exact absurd e (by simp)
  ·rename_i e f ys l' he
   cases he
   split at h
   ·rename_i hn
    subst hn
    obtain⟨b,h1,h2⟩:=Option.bind_eq_some_iff.1 h
    obtain⟨l',h3,rfl⟩:=Option.map_eq_some_iff.1 h2
    rw[ZK xs l' h3,ZJ ys b h1]
    simp[parts];rfl
   ·cases h
  ·cases h
def AK6:List V→List V→Option (V×List V)
 |[.lst e fl xs],[]=>if e=172 then(ACn xs).bind fun L=>if L.length<2147483648∧(flat L).length<2147480000∧0<(flat L).length then some (BH (TV (flat L)),[])else none else none
 |_,_=>none
def oq (f:FuncId) (vs h:List V):Option (V×List V):=
 bif Nat.beq f 176 then AK6 vs h else none
theorem AK7 {a b:Nat} (h:¬a=b):Nat.beq a b=false:=by
 cases e:Nat.beq a b with
 |false=>rfl
 |true=>exact absurd (Nat.eq_of_beq_eq_true e) h
theorem AK8 (f:FuncId) (vs h:List V) (r:V×List V) (e:oq f vs h=some r):Cl f vs h=some r:=by
 unfold oq at e
 by_cases h1:f=176
 ·subst h1
  rw[show Nat.beq 176 176=true from rfl,cond_true]at e
  unfold AK6 at e
  split at e
  ·rename_i a fl xs
   split at e
   ·rename_i ha
    subst ha
    obtain⟨L,h2,h3⟩:=Option.bind_eq_some_iff.1 e
    split at h3
    ·rename_i hc
     rw[←Option.some.inj h3,ZK xs L h2]
     exact U8 L hc.1 fl hc.2.1 hc.2.2
    ·cases h3
   ·cases e
  ·cases e
 ·rw[AK7 h1]at e
  cases e
end
section
open Go AM
def AG5:List V→List V→Option (V×List V)
 |[.str s],[]=>if s.length<2147480000 then some (.str (TV s),[])else none
 |_,_=>none
def oq2 (f:FuncId) (vs h:List V):Option (V×List V):=
 bif Nat.beq f 151 then AG5 vs h else oq f vs h
theorem BM (f:FuncId) (vs h:List V) (r:V×List V) (e:oq2 f vs h=some r):Cl f vs h=some r:=by
 unfold oq2 at e
 by_cases h1:f=151
 ·subst h1
  rw[show Nat.beq 151 151=true from rfl,cond_true]at e
  unfold AG5 at e
  split at e
  ·rename_i s
   split at e
   ·rename_i hc
    rw[←Option.some.inj e]
    exact Fe hc
   ·cases e
  ·cases e
 ·rw[AK7 h1]at e
  exact AK8 f vs h r e
end
section
open Go AM
structure Ent where
 f:FuncId
 vs:List V
 h:List V
 r:V×List V
def Ent.ok (e:Ent):Prop:=Cl e.f e.vs e.h=some e.r
def lkE (T:List Ent) (Q:FuncId→List V→List V→Option (V×List V)) (f:FuncId) (vs h:List V):Option (V×List V):=
 match T.find? fun e=>Nat.beq e.f f&&GU e.vs vs&&GU e.h h with
 |some e=>some e.r
 |none=>Q f vs h
theorem BN {T:List Ent} {Q:FuncId→List V→List V→Option (V×List V)} (hT:∀e∈T,e.ok) (hQ:∀f vs h r,Q f vs h=some r→Cl f vs h=some r) (f:FuncId) (vs h:List V) (r:V×List V) (hr:lkE T Q f vs h=some r):Cl f vs h=some r:=by
 unfold lkE at hr
 split at hr
 ·rename_i e he
  have h1:=List.find?_some he
  have h2:=hT e (List.mem_of_find?_eq_some he)
  simp only[Bool.and_eq_true]at h1
  obtain⟨⟨h3,h4⟩,h5⟩:=h1
  rw[←Option.some.inj hr,←Nat.eq_of_beq_eq_true h3,←EF _ _ h4,←EF _ _ h5]
  exact h2
 ·exact hQ _ _ _ _ hr
def by8 (l:List Int):List V:=l.map (V.int .u8)
def T0:List Ent:=[]
theorem AG6:∀e∈T0,e.ok:=by intro e he;cases he
def T1:List Ent:=⟨11,[.agg 23 [.int .i64 2,.lst 96 .sh [.agg 95 [.int .i64 0,.int .i64 1,.int .i64 5]]],.agg 25 [.str [115,115,115,112],.int .i64 0,.int .i64 3],.int .i64 1,.int .i64 0],[.agg 23 [.int .i64 2,.lst 96 .sh [.agg 95 [.int .i64 0,.int .i64 1,.int .i64 5]]]],(.tup [.ref 3 [] 103,.int .i64 0],[.agg 23 [.int .i64 2,.lst 96 .sh [.agg 95 [.int .i64 0,.int .i64 1,.int .i64 5]]],.agg 23 [.int .i64 2,.lst 96 .sh [.agg 95 [.int .i64 0,.int .i64 1,.int .i64 5]]],.agg 25 [.str [115,115,115,112],.int .i64 0,.int .i64 3],.agg 102 [.agg 23 [.int .i64 2,.lst 96 .sh [.agg 95 [.int .i64 0,.int .i64 1,.int .i64 5]]],.agg 25 [.str [115,115,115,112],.int .i64 0,.int .i64 3],.int .i64 1,.int .i64 0,.int .i64 0,.lst 86 .nil [],.lst 86 .own [.agg 85 [.int .i64 0,.int .i64 0,.bool true,.bool false,.int .i64 0],.agg 85 [.int .i64 1,.int .i64 (-1),.bool true,.bool false,.int .i64 0]],.bool false]])⟩::T0
theorem AG7:∀e∈T1,e.ok:=List.forall_mem_cons.2 ⟨(Ap (BN AG6 BM) 400).1 _ _ _ _ (by kernel_rfl),AG6⟩
def T2:List Ent:=⟨64,[.lst 86 .sh [.agg 85 [.int .i64 0,.int .i64 0,.bool true,.bool false,.int .i64 0],.agg 85 [.int .i64 1,.int .i64 (-1),.bool true,.bool false,.int .i64 0]]],[],(.lst 9 .sh [.str [0,0,1,0,0],.str [1,1,1,0,0]],[])⟩::T1
theorem AG8:∀e∈T2,e.ok:=List.forall_mem_cons.2 ⟨(Ap (BN AG7 BM) 400).1 _ _ _ _ (by kernel_rfl),AG7⟩
def T3:List Ent:=⟨83,[.lst 86 .sh [.agg 85 [.int .i64 0,.int .i64 0,.bool true,.bool false,.int .i64 0],.agg 85 [.int .i64 1,.int .i64 (-1),.bool true,.bool false,.int .i64 0]]],[],(.agg 65 (by8 [150,43,153,188,10,22,125,174,31,250,120,209,18,105,255,193,73,34,213,37,202,22,214,2,72,242,199,202,168,105,70,3]),[])⟩::T2
theorem AG9:∀e∈T3,e.ok:=List.forall_mem_cons.2 ⟨(Ap (BN AG8 BM) 400).1 _ _ _ _ (by kernel_rfl),AG8⟩
def T4:List Ent:=⟨28,[.ref 3 [] 103],[.agg 23 [.int .i64 2,.lst 96 .sh [.agg 95 [.int .i64 0,.int .i64 1,.int .i64 5]]],.agg 23 [.int .i64 2,.lst 96 .sh [.agg 95 [.int .i64 0,.int .i64 1,.int .i64 5]]],.agg 25 [.str [115,115,115,112],.int .i64 0,.int .i64 3],.agg 102 [.agg 23 [.int .i64 2,.lst 96 .sh [.agg 95 [.int .i64 0,.int .i64 1,.int .i64 5]]],.agg 25 [.str [115,115,115,112],.int .i64 0,.int .i64 3],.int .i64 1,.int .i64 0,.int .i64 0,.lst 86 .nil [],.lst 86 .own [.agg 85 [.int .i64 0,.int .i64 0,.bool true,.bool false,.int .i64 0],.agg 85 [.int .i64 1,.int .i64 (-1),.bool true,.bool false,.int .i64 0]],.bool false]],(.agg 65 (by8 [150,43,153,188,10,22,125,174,31,250,120,209,18,105,255,193,73,34,213,37,202,22,214,2,72,242,199,202,168,105,70,3]),[.agg 23 [.int .i64 2,.lst 96 .sh [.agg 95 [.int .i64 0,.int .i64 1,.int .i64 5]]],.agg 23 [.int .i64 2,.lst 96 .sh [.agg 95 [.int .i64 0,.int .i64 1,.int .i64 5]]],.agg 25 [.str [115,115,115,112],.int .i64 0,.int .i64 3],.agg 102 [.agg 23 [.int .i64 2,.lst 96 .sh [.agg 95 [.int .i64 0,.int .i64 1,.int .i64 5]]],.agg 25 [.str [115,115,115,112],.int .i64 0,.int .i64 3],.int .i64 1,.int .i64 0,.int .i64 0,.lst 86 .nil [],.lst 86 .own [.agg 85 [.int .i64 0,.int .i64 0,.bool true,.bool false,.int .i64 0],.agg 85 [.int .i64 1,.int .i64 (-1),.bool true,.bool false,.int .i64 0]],.bool false]])⟩::T3
theorem AHA:∀e∈T4,e.ok:=List.forall_mem_cons.2 ⟨(Ap (BN AG9 BM) 400).1 _ _ _ _ (by kernel_rfl),AG9⟩
def T5:List Ent:=⟨55,[.str [115,115,115,112],.lst 152 .sh [],.int .i64 0],[],(.tup [.int .i64 0,.bool false,.int .i64 0],[])⟩::T4
theorem AHB:∀e∈T5,e.ok:=List.forall_mem_cons.2 ⟨(Ap (BN AHA BM) 400).1 _ _ _ _ (by kernel_rfl),AHA⟩
def T6:List Ent:=⟨55,[.str [115,115,115,112],.lst 152 .sh [],.int .i64 1],[],(.tup [.int .i64 0,.bool false,.int .i64 0],[])⟩::T5
theorem AHC:∀e∈T6,e.ok:=List.forall_mem_cons.2 ⟨(Ap (BN AHB BM) 400).1 _ _ _ _ (by kernel_rfl),AHB⟩
def T7:List Ent:=⟨53,[.lst 86 .sh [.agg 85 [.int .i64 0,.int .i64 0,.bool true,.bool false,.int .i64 0],.agg 85 [.int .i64 1,.int .i64 (-1),.bool true,.bool false,.int .i64 0]],.clo 54 [.ref 5 [] 29,.ref 7 [] 39,.ref 9 [] 35]],[.agg 23 [.int .i64 2,.lst 96 .sh [.agg 95 [.int .i64 0,.int .i64 1,.int .i64 5]]],.agg 23 [.int .i64 2,.lst 96 .sh [.agg 95 [.int .i64 0,.int .i64 1,.int .i64 5]]],.agg 25 [.str [115,115,115,112],.int .i64 0,.int .i64 3],.agg 102 [.agg 23 [.int .i64 2,.lst 96 .sh [.agg 95 [.int .i64 0,.int .i64 1,.int .i64 5]]],.agg 25 [.str [115,115,115,112],.int .i64 0,.int .i64 3],.int .i64 1,.int .i64 0,.int .i64 0,.lst 86 .nil [],.lst 86 .own [.agg 85 [.int .i64 0,.int .i64 0,.bool true,.bool false,.int .i64 0],.agg 85 [.int .i64 1,.int .i64 (-1),.bool true,.bool false,.int .i64 0]],.bool false],.agg 65 (by8 [150,43,153,188,10,22,125,174,31,250,120,209,18,105,255,193,73,34,213,37,202,22,214,2,72,242,199,202,168,105,70,3]),.ref 3 [] 103,.int .i64 0,.lst 152 .sh [],.agg 43 [.int .i64 0,.str [],.lst 9 .nil []],.lst 86 .nil [],.lst 86 .nil [],.lst 152 .nil []],(.int .i64 0,[.agg 23 [.int .i64 2,.lst 96 .sh [.agg 95 [.int .i64 0,.int .i64 1,.int .i64 5]]],.agg 23 [.int .i64 2,.lst 96 .sh [.agg 95 [.int .i64 0,.int .i64 1,.int .i64 5]]],.agg 25 [.str [115,115,115,112],.int .i64 0,.int .i64 3],.agg 102 [.agg 23 [.int .i64 2,.lst 96 .sh [.agg 95 [.int .i64 0,.int .i64 1,.int .i64 5]]],.agg 25 [.str [115,115,115,112],.int .i64 0,.int .i64 3],.int .i64 1,.int .i64 0,.int .i64 0,.lst 86 .nil [],.lst 86 .own [.agg 85 [.int .i64 0,.int .i64 0,.bool true,.bool false,.int .i64 0],.agg 85 [.int .i64 1,.int .i64 (-1),.bool true,.bool false,.int .i64 0]],.bool false],.agg 65 (by8 [150,43,153,188,10,22,125,174,31,250,120,209,18,105,255,193,73,34,213,37,202,22,214,2,72,242,199,202,168,105,70,3]),.ref 3 [] 103,.int .i64 0,.lst 152 .sh [],.agg 43 [.int .i64 0,.str [],.lst 9 .nil []],.lst 86 .own [.agg 85 [.int .i64 0,.int .i64 0,.bool true,.bool false,.int .i64 0],.agg 85 [.int .i64 1,.int .i64 (-1),.bool true,.bool false,.int .i64 0]],.lst 86 .nil [],.lst 152 .nil []])⟩::T6
theorem AHD:∀e∈T7,e.ok:=List.forall_mem_cons.2 ⟨(Ap (BN AHC BM) 400).1 _ _ _ _ (by kernel_rfl),AHC⟩
def T8:List Ent:=⟨57,[.agg 23 [.int .i64 2,.lst 96 .sh [.agg 95 [.int .i64 0,.int .i64 1,.int .i64 5]]],.agg 25 [.str [115,115,115,112],.int .i64 0,.int .i64 3],.int .i64 0,.agg 85 [.int .i64 0,.int .i64 0,.bool true,.bool false,.int .i64 0]],[],(.tup [.agg 85 [.int .i64 0,.int .i64 0,.bool false,.bool false,.int .i64 0],.lst 152 .sh [.agg 151 [.int .i64 0,.int .i64 1,.int .i64 5]],.int .i64 0],[])⟩::T7
theorem AHE:∀e∈T8,e.ok:=List.forall_mem_cons.2 ⟨(Ap (BN AHD BM) 400).1 _ _ _ _ (by kernel_rfl),AHD⟩
def T9:List Ent:=⟨57,[.agg 23 [.int .i64 2,.lst 96 .sh [.agg 95 [.int .i64 0,.int .i64 1,.int .i64 5]]],.agg 25 [.str [115,115,115,112],.int .i64 0,.int .i64 3],.int .i64 0,.agg 85 [.int .i64 1,.int .i64 (-1),.bool true,.bool false,.int .i64 0]],[],(.tup [.agg 85 [.int .i64 1,.int .i64 (-1),.bool false,.bool false,.int .i64 0],.lst 152 .sh [],.int .i64 0],[])⟩::T8
theorem AHF:∀e∈T9,e.ok:=List.forall_mem_cons.2 ⟨(Ap (BN AHE BM) 400).1 _ _ _ _ (by kernel_rfl),AHE⟩
def T10:List Ent:=⟨53,[.lst 86 .sh [.agg 85 [.int .i64 0,.int .i64 0,.bool true,.bool false,.int .i64 0],.agg 85 [.int .i64 1,.int .i64 (-1),.bool true,.bool false,.int .i64 0]],.clo 56 [.ref 5 [] 29,.ref 6 [] 3,.ref 10 [] 35,.ref 11 [] 39]],[.agg 23 [.int .i64 2,.lst 96 .sh [.agg 95 [.int .i64 0,.int .i64 1,.int .i64 5]]],.agg 23 [.int .i64 2,.lst 96 .sh [.agg 95 [.int .i64 0,.int .i64 1,.int .i64 5]]],.agg 25 [.str [115,115,115,112],.int .i64 0,.int .i64 3],.agg 102 [.agg 23 [.int .i64 2,.lst 96 .sh [.agg 95 [.int .i64 0,.int .i64 1,.int .i64 5]]],.agg 25 [.str [115,115,115,112],.int .i64 0,.int .i64 3],.int .i64 1,.int .i64 0,.int .i64 0,.lst 86 .nil [],.lst 86 .own [.agg 85 [.int .i64 0,.int .i64 0,.bool true,.bool false,.int .i64 0],.agg 85 [.int .i64 1,.int .i64 (-1),.bool true,.bool false,.int .i64 0]],.bool false],.agg 65 (by8 [150,43,153,188,10,22,125,174,31,250,120,209,18,105,255,193,73,34,213,37,202,22,214,2,72,242,199,202,168,105,70,3]),.ref 3 [] 103,.int .i64 0,.lst 152 .sh [],.agg 43 [.int .i64 0,.str [],.lst 9 .nil []],.lst 86 .own [.agg 85 [.int .i64 0,.int .i64 0,.bool true,.bool false,.int .i64 0],.agg 85 [.int .i64 1,.int .i64 (-1),.bool true,.bool false,.int .i64 0]],.lst 86 .nil [],.lst 152 .nil []],(.int .i64 0,[.agg 23 [.int .i64 2,.lst 96 .sh [.agg 95 [.int .i64 0,.int .i64 1,.int .i64 5]]],.agg 23 [.int .i64 2,.lst 96 .sh [.agg 95 [.int .i64 0,.int .i64 1,.int .i64 5]]],.agg 25 [.str [115,115,115,112],.int .i64 0,.int .i64 3],.agg 102 [.agg 23 [.int .i64 2,.lst 96 .sh [.agg 95 [.int .i64 0,.int .i64 1,.int .i64 5]]],.agg 25 [.str [115,115,115,112],.int .i64 0,.int .i64 3],.int .i64 1,.int .i64 0,.int .i64 0,.lst 86 .nil [],.lst 86 .own [.agg 85 [.int .i64 0,.int .i64 0,.bool true,.bool false,.int .i64 0],.agg 85 [.int .i64 1,.int .i64 (-1),.bool true,.bool false,.int .i64 0]],.bool false],.agg 65 (by8 [150,43,153,188,10,22,125,174,31,250,120,209,18,105,255,193,73,34,213,37,202,22,214,2,72,242,199,202,168,105,70,3]),.ref 3 [] 103,.int .i64 0,.lst 152 .sh [],.agg 43 [.int .i64 0,.str [],.lst 9 .nil []],.lst 86 .own [.agg 85 [.int .i64 0,.int .i64 0,.bool true,.bool false,.int .i64 0],.agg 85 [.int .i64 1,.int .i64 (-1),.bool true,.bool false,.int .i64 0]],.lst 86 .own [.agg 85 [.int .i64 0,.int .i64 0,.bool false,.bool false,.int .i64 0],.agg 85 [.int .i64 1,.int .i64 (-1),.bool false,.bool false,.int .i64 0]],.lst 152 .own [.agg 151 [.int .i64 0,.int .i64 1,.int .i64 5]]])⟩::T9
theorem ACo:∀e∈T10,e.ok:=List.forall_mem_cons.2 ⟨(Ap (BN AHF BM) 400).1 _ _ _ _ (by kernel_rfl),AHF⟩
def T11:List Ent:=⟨58,[.int .i64 1,.lst 152 .sh [.agg 151 [.int .i64 0,.int .i64 1,.int .i64 5]]],[],(.tup [.lst 39 .sh [.lst 152 .sh [.agg 151 [.int .i64 0,.int .i64 1,.int .i64 5]]],.int .i64 0],[])⟩::T10
theorem ACp:∀e∈T11,e.ok:=List.forall_mem_cons.2 ⟨(Ap (BN ACo BM) 400).1 _ _ _ _ (by kernel_rfl),ACo⟩
def T12:List Ent:=⟨64,[.lst 86 .sh [.agg 85 [.int .i64 0,.int .i64 0,.bool false,.bool false,.int .i64 0],.agg 85 [.int .i64 1,.int .i64 (-1),.bool false,.bool false,.int .i64 0]]],[],(.lst 9 .sh [.str [0,0,0,0,0],.str [1,1,0,0,0]],[])⟩::T11
theorem ACq:∀e∈T12,e.ok:=List.forall_mem_cons.2 ⟨(Ap (BN ACp BM) 400).1 _ _ _ _ (by kernel_rfl),ACp⟩
def T13:List Ent:=⟨83,[.lst 86 .sh [.agg 85 [.int .i64 0,.int .i64 0,.bool false,.bool false,.int .i64 0],.agg 85 [.int .i64 1,.int .i64 (-1),.bool false,.bool false,.int .i64 0]]],[],(.agg 65 (by8 [122,108,79,21,176,240,237,199,155,2,210,19,58,124,119,200,225,82,232,215,247,145,243,145,125,218,178,100,224,26,96,18]),[])⟩::T12
theorem ACr:∀e∈T13,e.ok:=List.forall_mem_cons.2 ⟨(Ap (BN ACq BM) 400).1 _ _ _ _ (by kernel_rfl),ACq⟩
def T14:List Ent:=⟨59,[.int .i64 0,.int .i64 0,.lst 86 .sh [.agg 85 [.int .i64 0,.int .i64 0,.bool false,.bool false,.int .i64 0],.agg 85 [.int .i64 1,.int .i64 (-1),.bool false,.bool false,.int .i64 0]],.lst 39 .sh [.lst 152 .sh [.agg 151 [.int .i64 0,.int .i64 1,.int .i64 5]]]],[],(.tup [.agg 76 [.int .i64 0,.int .i64 0,.agg 65 (by8 [122,108,79,21,176,240,237,199,155,2,210,19,58,124,119,200,225,82,232,215,247,145,243,145,125,218,178,100,224,26,96,18]),.lst 66 .sh [.agg 65 (by8 [42,237,57,191,39,46,253,156,91,120,169,228,39,137,60,170,135,93,169,73,212,32,122,104,196,31,46,52,187,254,72,237])]],.int .i64 0],[])⟩::T13
theorem ACs:∀e∈T14,e.ok:=List.forall_mem_cons.2 ⟨(Ap (BN ACr BM) 400).1 _ _ _ _ (by kernel_rfl),ACr⟩
def T15:List Ent:=⟨60,[.agg 76 [.int .i64 0,.int .i64 0,.agg 65 (by8 [122,108,79,21,176,240,237,199,155,2,210,19,58,124,119,200,225,82,232,215,247,145,243,145,125,218,178,100,224,26,96,18]),.lst 66 .sh [.agg 65 (by8 [42,237,57,191,39,46,253,156,91,120,169,228,39,137,60,170,135,93,169,73,212,32,122,104,196,31,46,52,187,254,72,237])]]],[],(.tup [.str [67,0,0,122,108,79,21,176,240,237,199,155,2,210,19,58,124,119,200,225,82,232,215,247,145,243,145,125,218,178,100,224,26,96,18,1,42,237,57,191,39,46,253,156,91,120,169,228,39,137,60,170,135,93,169,73,212,32,122,104,196,31,46,52,187,254,72,237],.int .i64 0],[])⟩::T14
theorem ACt:∀e∈T15,e.ok:=List.forall_mem_cons.2 ⟨(Ap (BN ACs BM) 400).1 _ _ _ _ (by kernel_rfl),ACs⟩
def T16:List Ent:=⟨61,[.lst 152 .sh [.agg 151 [.int .i64 0,.int .i64 1,.int .i64 5]]],[],(.tup [.str [1,3,0,1,10],.int .i64 0],[])⟩::T15
theorem ACu:∀e∈T16,e.ok:=List.forall_mem_cons.2 ⟨(Ap (BN ACt BM) 400).1 _ _ _ _ (by kernel_rfl),ACt⟩
def T17:List Ent:=⟨17,[.ref 3 [] 103,.int .i64 0,.lst 152 .sh []],[.agg 23 [.int .i64 2,.lst 96 .sh [.agg 95 [.int .i64 0,.int .i64 1,.int .i64 5]]],.agg 23 [.int .i64 2,.lst 96 .sh [.agg 95 [.int .i64 0,.int .i64 1,.int .i64 5]]],.agg 25 [.str [115,115,115,112],.int .i64 0,.int .i64 3],.agg 102 [.agg 23 [.int .i64 2,.lst 96 .sh [.agg 95 [.int .i64 0,.int .i64 1,.int .i64 5]]],.agg 25 [.str [115,115,115,112],.int .i64 0,.int .i64 3],.int .i64 1,.int .i64 0,.int .i64 0,.lst 86 .nil [],.lst 86 .own [.agg 85 [.int .i64 0,.int .i64 0,.bool true,.bool false,.int .i64 0],.agg 85 [.int .i64 1,.int .i64 (-1),.bool true,.bool false,.int .i64 0]],.bool false],.agg 65 (by8 [150,43,153,188,10,22,125,174,31,250,120,209,18,105,255,193,73,34,213,37,202,22,214,2,72,242,199,202,168,105,70,3])],(.agg 43 [.int .i64 0,.str [67,0,0,122,108,79,21,176,240,237,199,155,2,210,19,58,124,119,200,225,82,232,215,247,145,243,145,125,218,178,100,224,26,96,18,1,42,237,57,191,39,46,253,156,91,120,169,228,39,137,60,170,135,93,169,73,212,32,122,104,196,31,46,52,187,254,72,237],.lst 9 .sh [.str [1,3,0,1,10]]],[.agg 23 [.int .i64 2,.lst 96 .sh [.agg 95 [.int .i64 0,.int .i64 1,.int .i64 5]]],.agg 23 [.int .i64 2,.lst 96 .sh [.agg 95 [.int .i64 0,.int .i64 1,.int .i64 5]]],.agg 25 [.str [115,115,115,112],.int .i64 0,.int .i64 3],.agg 102 [.agg 23 [.int .i64 2,.lst 96 .sh [.agg 95 [.int .i64 0,.int .i64 1,.int .i64 5]]],.agg 25 [.str [115,115,115,112],.int .i64 0,.int .i64 3],.int .i64 1,.int .i64 0,.int .i64 1,.lst 86 .sh [.agg 85 [.int .i64 0,.int .i64 0,.bool true,.bool false,.int .i64 0],.agg 85 [.int .i64 1,.int .i64 (-1),.bool true,.bool false,.int .i64 0]],.lst 86 .sh [.agg 85 [.int .i64 0,.int .i64 0,.bool false,.bool false,.int .i64 0],.agg 85 [.int .i64 1,.int .i64 (-1),.bool false,.bool false,.int .i64 0]],.bool true],.agg 65 (by8 [150,43,153,188,10,22,125,174,31,250,120,209,18,105,255,193,73,34,213,37,202,22,214,2,72,242,199,202,168,105,70,3])])⟩::T16
theorem ACv:∀e∈T17,e.ok:=List.forall_mem_cons.2 ⟨(Ap (BN ACu BM) 400).1 _ _ _ _ (by kernel_rfl),ACu⟩
def T18:List Ent:=⟨33,[.str [1,3,0,1,10]],[],(.tup [.lst 152 .sh [.agg 151 [.int .i64 0,.int .i64 1,.int .i64 5]],.int .i64 0],[])⟩::T17
theorem ACw:∀e∈T18,e.ok:=List.forall_mem_cons.2 ⟨(Ap (BN ACv BM) 400).1 _ _ _ _ (by kernel_rfl),ACv⟩
def T19:List Ent:=⟨63,[.lst 9 .sh [.str [0,0,1,0,0],.str [1,1,1,0,0]],.int .i64 1],[],(.tup [.lst 66 .sh [.agg 65 (by8 [16,72,125,134,206,53,132,225,86,135,78,217,178,101,14,141,119,42,141,31,219,177,201,17,27,247,226,251,202,177,140,203])],.int .i64 0],[])⟩::T18
theorem ACx:∀e∈T19,e.ok:=List.forall_mem_cons.2 ⟨(Ap (BN ACw BM) 400).1 _ _ _ _ (by kernel_rfl),ACw⟩
def T20:List Ent:=⟨63,[.lst 9 .sh [.str [0,0,0,0,0],.str [1,1,0,0,0]],.int .i64 1],[],(.tup [.lst 66 .sh [.agg 65 (by8 [176,246,106,220,131,100,21,134,101,104,102,129,63,217,221,11,142,187,99,121,96,117,102,27,164,93,26,168,8,158,29,68])],.int .i64 0],[])⟩::T19
theorem ACy:∀e∈T20,e.ok:=List.forall_mem_cons.2 ⟨(Ap (BN ACx BM) 400).1 _ _ _ _ (by kernel_rfl),ACx⟩
def T21:List Ent:=⟨18,[.ref 3 [] 103,.int .i64 1],[.agg 23 [.int .i64 2,.lst 96 .sh [.agg 95 [.int .i64 0,.int .i64 1,.int .i64 5]]],.agg 23 [.int .i64 2,.lst 96 .sh [.agg 95 [.int .i64 0,.int .i64 1,.int .i64 5]]],.agg 25 [.str [115,115,115,112],.int .i64 0,.int .i64 3],.agg 102 [.agg 23 [.int .i64 2,.lst 96 .sh [.agg 95 [.int .i64 0,.int .i64 1,.int .i64 5]]],.agg 25 [.str [115,115,115,112],.int .i64 0,.int .i64 3],.int .i64 1,.int .i64 0,.int .i64 1,.lst 86 .sh [.agg 85 [.int .i64 0,.int .i64 0,.bool true,.bool false,.int .i64 0],.agg 85 [.int .i64 1,.int .i64 (-1),.bool true,.bool false,.int .i64 0]],.lst 86 .sh [.agg 85 [.int .i64 0,.int .i64 0,.bool false,.bool false,.int .i64 0],.agg 85 [.int .i64 1,.int .i64 (-1),.bool false,.bool false,.int .i64 0]],.bool true],.agg 65 (by8 [150,43,153,188,10,22,125,174,31,250,120,209,18,105,255,193,73,34,213,37,202,22,214,2,72,242,199,202,168,105,70,3]),.agg 43 [.int .i64 0,.str [67,0,0,122,108,79,21,176,240,237,199,155,2,210,19,58,124,119,200,225,82,232,215,247,145,243,145,125,218,178,100,224,26,96,18,1,42,237,57,191,39,46,253,156,91,120,169,228,39,137,60,170,135,93,169,73,212,32,122,104,196,31,46,52,187,254,72,237],.lst 9 .sh [.str [1,3,0,1,10]]]],(.tup [.agg 50 [.int .i64 1,.str [1,1,1,0,0],.str [1,1,0,0,0],.lst 66 .sh [.agg 65 (by8 [16,72,125,134,206,53,132,225,86,135,78,217,178,101,14,141,119,42,141,31,219,177,201,17,27,247,226,251,202,177,140,203])],.lst 66 .sh [.agg 65 (by8 [176,246,106,220,131,100,21,134,101,104,102,129,63,217,221,11,142,187,99,121,96,117,102,27,164,93,26,168,8,158,29,68])]],.int .i64 0],[.agg 23 [.int .i64 2,.lst 96 .sh [.agg 95 [.int .i64 0,.int .i64 1,.int .i64 5]]],.agg 23 [.int .i64 2,.lst 96 .sh [.agg 95 [.int .i64 0,.int .i64 1,.int .i64 5]]],.agg 25 [.str [115,115,115,112],.int .i64 0,.int .i64 3],.agg 102 [.agg 23 [.int .i64 2,.lst 96 .sh [.agg 95 [.int .i64 0,.int .i64 1,.int .i64 5]]],.agg 25 [.str [115,115,115,112],.int .i64 0,.int .i64 3],.int .i64 1,.int .i64 0,.int .i64 1,.lst 86 .sh [.agg 85 [.int .i64 0,.int .i64 0,.bool true,.bool false,.int .i64 0],.agg 85 [.int .i64 1,.int .i64 (-1),.bool true,.bool false,.int .i64 0]],.lst 86 .sh [.agg 85 [.int .i64 0,.int .i64 0,.bool false,.bool false,.int .i64 0],.agg 85 [.int .i64 1,.int .i64 (-1),.bool false,.bool false,.int .i64 0]],.bool true],.agg 65 (by8 [150,43,153,188,10,22,125,174,31,250,120,209,18,105,255,193,73,34,213,37,202,22,214,2,72,242,199,202,168,105,70,3]),.agg 43 [.int .i64 0,.str [67,0,0,122,108,79,21,176,240,237,199,155,2,210,19,58,124,119,200,225,82,232,215,247,145,243,145,125,218,178,100,224,26,96,18,1,42,237,57,191,39,46,253,156,91,120,169,228,39,137,60,170,135,93,169,73,212,32,122,104,196,31,46,52,187,254,72,237],.lst 9 .sh [.str [1,3,0,1,10]]]])⟩::T20
theorem ACz:∀e∈T21,e.ok:=List.forall_mem_cons.2 ⟨(Ap (BN ACy BM) 400).1 _ _ _ _ (by kernel_rfl),ACy⟩
def T22:List Ent:=⟨35,[.agg 65 (by8 [150,43,153,188,10,22,125,174,31,250,120,209,18,105,255,193,73,34,213,37,202,22,214,2,72,242,199,202,168,105,70,3]),.int .i64 2,.int .i64 1,.str [1,1,1,0,0],.lst 66 .sh [.agg 65 (by8 [16,72,125,134,206,53,132,225,86,135,78,217,178,101,14,141,119,42,141,31,219,177,201,17,27,247,226,251,202,177,140,203])]],[],(.bool true,[])⟩::T21
theorem AC0:∀e∈T22,e.ok:=List.forall_mem_cons.2 ⟨(Ap (BN ACz BM) 400).1 _ _ _ _ (by kernel_rfl),ACz⟩
def T23:List Ent:=⟨28,[.ref 3 [] 103],[.agg 23 [.int .i64 2,.lst 96 .sh [.agg 95 [.int .i64 0,.int .i64 1,.int .i64 5]]],.agg 23 [.int .i64 2,.lst 96 .sh [.agg 95 [.int .i64 0,.int .i64 1,.int .i64 5]]],.agg 25 [.str [115,115,115,112],.int .i64 0,.int .i64 3],.agg 102 [.agg 23 [.int .i64 2,.lst 96 .sh [.agg 95 [.int .i64 0,.int .i64 1,.int .i64 5]]],.agg 25 [.str [115,115,115,112],.int .i64 0,.int .i64 3],.int .i64 1,.int .i64 0,.int .i64 1,.lst 86 .sh [.agg 85 [.int .i64 0,.int .i64 0,.bool true,.bool false,.int .i64 0],.agg 85 [.int .i64 1,.int .i64 (-1),.bool true,.bool false,.int .i64 0]],.lst 86 .sh [.agg 85 [.int .i64 0,.int .i64 0,.bool false,.bool false,.int .i64 0],.agg 85 [.int .i64 1,.int .i64 (-1),.bool false,.bool false,.int .i64 0]],.bool true],.agg 65 (by8 [150,43,153,188,10,22,125,174,31,250,120,209,18,105,255,193,73,34,213,37,202,22,214,2,72,242,199,202,168,105,70,3]),.agg 43 [.int .i64 0,.str [67,0,0,122,108,79,21,176,240,237,199,155,2,210,19,58,124,119,200,225,82,232,215,247,145,243,145,125,218,178,100,224,26,96,18,1,42,237,57,191,39,46,253,156,91,120,169,228,39,137,60,170,135,93,169,73,212,32,122,104,196,31,46,52,187,254,72,237],.lst 9 .sh [.str [1,3,0,1,10]]],.row 0 []],(.agg 65 (by8 [122,108,79,21,176,240,237,199,155,2,210,19,58,124,119,200,225,82,232,215,247,145,243,145,125,218,178,100,224,26,96,18]),[.agg 23 [.int .i64 2,.lst 96 .sh [.agg 95 [.int .i64 0,.int .i64 1,.int .i64 5]]],.agg 23 [.int .i64 2,.lst 96 .sh [.agg 95 [.int .i64 0,.int .i64 1,.int .i64 5]]],.agg 25 [.str [115,115,115,112],.int .i64 0,.int .i64 3],.agg 102 [.agg 23 [.int .i64 2,.lst 96 .sh [.agg 95 [.int .i64 0,.int .i64 1,.int .i64 5]]],.agg 25 [.str [115,115,115,112],.int .i64 0,.int .i64 3],.int .i64 1,.int .i64 0,.int .i64 1,.lst 86 .sh [.agg 85 [.int .i64 0,.int .i64 0,.bool true,.bool false,.int .i64 0],.agg 85 [.int .i64 1,.int .i64 (-1),.bool true,.bool false,.int .i64 0]],.lst 86 .sh [.agg 85 [.int .i64 0,.int .i64 0,.bool false,.bool false,.int .i64 0],.agg 85 [.int .i64 1,.int .i64 (-1),.bool false,.bool false,.int .i64 0]],.bool true],.agg 65 (by8 [150,43,153,188,10,22,125,174,31,250,120,209,18,105,255,193,73,34,213,37,202,22,214,2,72,242,199,202,168,105,70,3]),.agg 43 [.int .i64 0,.str [67,0,0,122,108,79,21,176,240,237,199,155,2,210,19,58,124,119,200,225,82,232,215,247,145,243,145,125,218,178,100,224,26,96,18,1,42,237,57,191,39,46,253,156,91,120,169,228,39,137,60,170,135,93,169,73,212,32,122,104,196,31,46,52,187,254,72,237],.lst 9 .sh [.str [1,3,0,1,10]]],.row 0 []])⟩::T22
theorem AC1:∀e∈T23,e.ok:=List.forall_mem_cons.2 ⟨(Ap (BN AC0 BM) 400).1 _ _ _ _ (by kernel_rfl),AC0⟩
def T24:List Ent:=⟨35,[.agg 65 (by8 [122,108,79,21,176,240,237,199,155,2,210,19,58,124,119,200,225,82,232,215,247,145,243,145,125,218,178,100,224,26,96,18]),.int .i64 2,.int .i64 1,.str [1,1,0,0,0],.lst 66 .sh [.agg 65 (by8 [176,246,106,220,131,100,21,134,101,104,102,129,63,217,221,11,142,187,99,121,96,117,102,27,164,93,26,168,8,158,29,68])]],[],(.bool true,[])⟩::T23
theorem AC2:∀e∈T24,e.ok:=List.forall_mem_cons.2 ⟨(Ap (BN AC1 BM) 400).1 _ _ _ _ (by kernel_rfl),AC1⟩
def T25:List Ent:=⟨21,[.ref 3 [] 103],[.agg 23 [.int .i64 2,.lst 96 .sh [.agg 95 [.int .i64 0,.int .i64 1,.int .i64 5]]],.agg 23 [.int .i64 2,.lst 96 .sh [.agg 95 [.int .i64 0,.int .i64 1,.int .i64 5]]],.agg 25 [.str [115,115,115,112],.int .i64 0,.int .i64 3],.agg 102 [.agg 23 [.int .i64 2,.lst 96 .sh [.agg 95 [.int .i64 0,.int .i64 1,.int .i64 5]]],.agg 25 [.str [115,115,115,112],.int .i64 0,.int .i64 3],.int .i64 1,.int .i64 0,.int .i64 1,.lst 86 .sh [.agg 85 [.int .i64 0,.int .i64 0,.bool true,.bool false,.int .i64 0],.agg 85 [.int .i64 1,.int .i64 (-1),.bool true,.bool false,.int .i64 0]],.lst 86 .sh [.agg 85 [.int .i64 0,.int .i64 0,.bool false,.bool false,.int .i64 0],.agg 85 [.int .i64 1,.int .i64 (-1),.bool false,.bool false,.int .i64 0]],.bool true],.agg 65 (by8 [150,43,153,188,10,22,125,174,31,250,120,209,18,105,255,193,73,34,213,37,202,22,214,2,72,242,199,202,168,105,70,3]),.agg 43 [.int .i64 0,.str [67,0,0,122,108,79,21,176,240,237,199,155,2,210,19,58,124,119,200,225,82,232,215,247,145,243,145,125,218,178,100,224,26,96,18,1,42,237,57,191,39,46,253,156,91,120,169,228,39,137,60,170,135,93,169,73,212,32,122,104,196,31,46,52,187,254,72,237],.lst 9 .sh [.str [1,3,0,1,10]]],.agg 50 [.int .i64 1,.str [1,1,1,0,0],.str [1,1,0,0,0],.lst 66 .sh [.agg 65 (by8 [16,72,125,134,206,53,132,225,86,135,78,217,178,101,14,141,119,42,141,31,219,177,201,17,27,247,226,251,202,177,140,203])],.lst 66 .sh [.agg 65 (by8 [176,246,106,220,131,100,21,134,101,104,102,129,63,217,221,11,142,187,99,121,96,117,102,27,164,93,26,168,8,158,29,68])]]],(.str [83,1,2,5,0,0,0,0,0,5,1,1,0,0,0],[.agg 23 [.int .i64 2,.lst 96 .sh [.agg 95 [.int .i64 0,.int .i64 1,.int .i64 5]]],.agg 23 [.int .i64 2,.lst 96 .sh [.agg 95 [.int .i64 0,.int .i64 1,.int .i64 5]]],.agg 25 [.str [115,115,115,112],.int .i64 0,.int .i64 3],.agg 102 [.agg 23 [.int .i64 2,.lst 96 .sh [.agg 95 [.int .i64 0,.int .i64 1,.int .i64 5]]],.agg 25 [.str [115,115,115,112],.int .i64 0,.int .i64 3],.int .i64 1,.int .i64 0,.int .i64 1,.lst 86 .sh [.agg 85 [.int .i64 0,.int .i64 0,.bool true,.bool false,.int .i64 0],.agg 85 [.int .i64 1,.int .i64 (-1),.bool true,.bool false,.int .i64 0]],.lst 86 .sh [.agg 85 [.int .i64 0,.int .i64 0,.bool false,.bool false,.int .i64 0],.agg 85 [.int .i64 1,.int .i64 (-1),.bool false,.bool false,.int .i64 0]],.bool true],.agg 65 (by8 [150,43,153,188,10,22,125,174,31,250,120,209,18,105,255,193,73,34,213,37,202,22,214,2,72,242,199,202,168,105,70,3]),.agg 43 [.int .i64 0,.str [67,0,0,122,108,79,21,176,240,237,199,155,2,210,19,58,124,119,200,225,82,232,215,247,145,243,145,125,218,178,100,224,26,96,18,1,42,237,57,191,39,46,253,156,91,120,169,228,39,137,60,170,135,93,169,73,212,32,122,104,196,31,46,52,187,254,72,237],.lst 9 .sh [.str [1,3,0,1,10]]],.agg 50 [.int .i64 1,.str [1,1,1,0,0],.str [1,1,0,0,0],.lst 66 .sh [.agg 65 (by8 [16,72,125,134,206,53,132,225,86,135,78,217,178,101,14,141,119,42,141,31,219,177,201,17,27,247,226,251,202,177,140,203])],.lst 66 .sh [.agg 65 (by8 [176,246,106,220,131,100,21,134,101,104,102,129,63,217,221,11,142,187,99,121,96,117,102,27,164,93,26,168,8,158,29,68])]]])⟩::T24
theorem AC3:∀e∈T25,e.ok:=List.forall_mem_cons.2 ⟨(Ap (BN AC2 BM) 400).1 _ _ _ _ (by kernel_rfl),AC2⟩
def T26:List Ent:=⟨24,[.ref 3 [] 103,.str [83,1,2,5,0,0,0,0,0,5,1,1,0,0,0]],[.agg 23 [.int .i64 2,.lst 96 .sh [.agg 95 [.int .i64 0,.int .i64 1,.int .i64 5]]],.agg 23 [.int .i64 2,.lst 96 .sh [.agg 95 [.int .i64 0,.int .i64 1,.int .i64 5]]],.agg 25 [.str [115,115,115,112],.int .i64 0,.int .i64 3],.agg 102 [.agg 23 [.int .i64 2,.lst 96 .sh [.agg 95 [.int .i64 0,.int .i64 1,.int .i64 5]]],.agg 25 [.str [115,115,115,112],.int .i64 0,.int .i64 3],.int .i64 1,.int .i64 0,.int .i64 1,.lst 86 .sh [.agg 85 [.int .i64 0,.int .i64 0,.bool true,.bool false,.int .i64 0],.agg 85 [.int .i64 1,.int .i64 (-1),.bool true,.bool false,.int .i64 0]],.lst 86 .sh [.agg 85 [.int .i64 0,.int .i64 0,.bool false,.bool false,.int .i64 0],.agg 85 [.int .i64 1,.int .i64 (-1),.bool false,.bool false,.int .i64 0]],.bool true],.agg 65 (by8 [150,43,153,188,10,22,125,174,31,250,120,209,18,105,255,193,73,34,213,37,202,22,214,2,72,242,199,202,168,105,70,3]),.agg 43 [.int .i64 0,.str [67,0,0,122,108,79,21,176,240,237,199,155,2,210,19,58,124,119,200,225,82,232,215,247,145,243,145,125,218,178,100,224,26,96,18,1,42,237,57,191,39,46,253,156,91,120,169,228,39,137,60,170,135,93,169,73,212,32,122,104,196,31,46,52,187,254,72,237],.lst 9 .sh [.str [1,3,0,1,10]]],.agg 50 [.int .i64 1,.str [1,1,1,0,0],.str [1,1,0,0,0],.lst 66 .sh [.agg 65 (by8 [16,72,125,134,206,53,132,225,86,135,78,217,178,101,14,141,119,42,141,31,219,177,201,17,27,247,226,251,202,177,140,203])],.lst 66 .sh [.agg 65 (by8 [176,246,106,220,131,100,21,134,101,104,102,129,63,217,221,11,142,187,99,121,96,117,102,27,164,93,26,168,8,158,29,68])]]],(.int .i64 0,[.agg 23 [.int .i64 2,.lst 96 .sh [.agg 95 [.int .i64 0,.int .i64 1,.int .i64 5]]],.agg 23 [.int .i64 2,.lst 96 .sh [.agg 95 [.int .i64 0,.int .i64 1,.int .i64 5]]],.agg 25 [.str [115,115,115,112],.int .i64 0,.int .i64 3],.agg 102 [.agg 23 [.int .i64 2,.lst 96 .sh [.agg 95 [.int .i64 0,.int .i64 1,.int .i64 5]]],.agg 25 [.str [115,115,115,112],.int .i64 0,.int .i64 3],.int .i64 1,.int .i64 0,.int .i64 1,.lst 86 .nil [],.lst 86 .own [.agg 85 [.int .i64 0,.int .i64 0,.bool false,.bool false,.int .i64 0],.agg 85 [.int .i64 1,.int .i64 (-1),.bool false,.bool false,.int .i64 0]],.bool false],.agg 65 (by8 [150,43,153,188,10,22,125,174,31,250,120,209,18,105,255,193,73,34,213,37,202,22,214,2,72,242,199,202,168,105,70,3]),.agg 43 [.int .i64 0,.str [67,0,0,122,108,79,21,176,240,237,199,155,2,210,19,58,124,119,200,225,82,232,215,247,145,243,145,125,218,178,100,224,26,96,18,1,42,237,57,191,39,46,253,156,91,120,169,228,39,137,60,170,135,93,169,73,212,32,122,104,196,31,46,52,187,254,72,237],.lst 9 .sh [.str [1,3,0,1,10]]],.agg 50 [.int .i64 1,.str [1,1,1,0,0],.str [1,1,0,0,0],.lst 66 .sh [.agg 65 (by8 [16,72,125,134,206,53,132,225,86,135,78,217,178,101,14,141,119,42,141,31,219,177,201,17,27,247,226,251,202,177,140,203])],.lst 66 .sh [.agg 65 (by8 [176,246,106,220,131,100,21,134,101,104,102,129,63,217,221,11,142,187,99,121,96,117,102,27,164,93,26,168,8,158,29,68])]]])⟩::T25
theorem AIt:∀e∈T26,e.ok:=List.forall_mem_cons.2 ⟨(Ap (BN AC3 BM) 400).1 _ _ _ _ (by kernel_rfl),AC3⟩
theorem AFt:Cl 10 [] []=some (.bool true,[]):=(Ap (BN AIt BM) 400).1 _ _ _ _ (by kernel_rfl)
end
section
open Go AM
def TB (g:Grf) (j:Job) (n w:Int):Bool:=Ie g j&&(decide (1≤n)&&(decide (n≤64)&&(decide (0≤w)&&decide (w<n))))
theorem Va {g:Grf} (hl:g.es.length<1000000) (j:Job) (n w:Int):Cl 13 [vG .sh g,vJ j,.int .i64 n,.int .i64 w] []=some (.bool (TB g j n w),[]):=by
 have hg:=XA hl j
 rw[TB,AHb]
 generalize Ie g j=b at*
 repeat' first|rfl|refine SI (fun _=> ?_) (fun _=> ?_)|refine SK (fun _=> ?_) (fun _=> ?_)|simp(disch:=first|assumption|omega|(with_reducible rfl)|(simp only[go_sem];done)|(simp only[go_sem];omega)|fail) only[↓reduceIte,↓AO,Nat.reduceAdd,go_sem,hg]
 all_goals simp_all
 all_goals omega
set_option maxHeartbeats 2000000 in
theorem O3 (g:Grf) (j:Job) (n w:Int):Cl 7 [vG .sh g,vJ j,.int .i64 n,.int .i64 w] []=some (.bool true,[]):=by
 have hA:=AFt
 by_cases h1:40<g.es.length
 ·rw[Xp]
  (repeat' with_reducible first|refine(FD _ _).trans ?_|refine(Ee _ _).trans ?_|refine(AO _ _).trans ?_|((first|(refine' (AB ?_ _).trans ?_;rotate_left)|refine(if_pos ?_).trans ?_|refine(DF ?_ _ _).trans ?_);focus (first|rfl|(simp(disch:=first|assumption|omega|with_reducible rfl|(simp only[go_sem]<;>omega)|fail) only[↓reduceIte,↓AO,Nat.reduceAdd,go_sem,Bool.not_true,Bool.not_false,hA]<;>first|rfl|omega)|assumption|omega))|(refine(Bq ?_ _ _).trans ?_;focus (first|(simp(disch:=first|assumption|omega|with_reducible rfl|(simp only[go_sem]<;>omega)|fail) only[↓reduceIte,↓AO,Nat.reduceAdd,go_sem,Bool.not_true,Bool.not_false,hA]<;>omega)|assumption|omega))|fail)
  rfl
 by_cases h2:12<g.n
 ·rw[Xp]
  (repeat' with_reducible first|refine(FD _ _).trans ?_|refine(Ee _ _).trans ?_|refine(AO _ _).trans ?_|((first|(refine' (AB ?_ _).trans ?_;rotate_left)|refine(if_pos ?_).trans ?_|refine(DF ?_ _ _).trans ?_);focus (first|rfl|(simp(disch:=first|assumption|omega|with_reducible rfl|(simp only[go_sem]<;>omega)|fail) only[↓reduceIte,↓AO,Nat.reduceAdd,go_sem,Bool.not_true,Bool.not_false,hA]<;>first|rfl|omega)|assumption|omega))|(refine(Bq ?_ _ _).trans ?_;focus (first|(simp(disch:=first|assumption|omega|with_reducible rfl|(simp only[go_sem]<;>omega)|fail) only[↓reduceIte,↓AO,Nat.reduceAdd,go_sem,Bool.not_true,Bool.not_false,hA]<;>omega)|assumption|omega))|fail)
  rfl
 have hl:g.es.length<1000000:=by omega
 have rt:=Va hl j n w
 cases hr:TB g j n w with
 |false=>
  rw[hr]at rt
  rw[Xp]
  (repeat' with_reducible first|refine(FD _ _).trans ?_|refine(Ee _ _).trans ?_|refine(AO _ _).trans ?_|((first|(refine' (AB ?_ _).trans ?_;rotate_left)|refine(if_pos ?_).trans ?_|refine(DF ?_ _ _).trans ?_);focus (first|rfl|(simp(disch:=first|assumption|omega|with_reducible rfl|(simp only[go_sem]<;>omega)|fail) only[↓reduceIte,↓AO,Nat.reduceAdd,go_sem,Bool.not_true,Bool.not_false,hA,rt]<;>first|rfl|omega)|assumption|omega))|(refine(Bq ?_ _ _).trans ?_;focus (first|(simp(disch:=first|assumption|omega|with_reducible rfl|(simp only[go_sem]<;>omega)|fail) only[↓reduceIte,↓AO,Nat.reduceAdd,go_sem,Bool.not_true,Bool.not_false,hA,rt]<;>omega)|assumption|omega))|fail)
  rfl
 |true=>
 rw[hr]at rt
 simp only[TB,Bool.and_eq_true,decide_eq_true_eq]at hr
 obtain⟨hj,n1,n2,w0,wn⟩:=hr
 obtain⟨N,rfl⟩:=Int.eq_ofNat_of_zero_le (show 0≤n by omega)
 obtain⟨u,rfl⟩:=Int.eq_ofNat_of_zero_le w0
 have hg':=TA hj
 have hkn:EO j.tag=true:=by simp only[Ie,decide_eq_true_eq]at hj;exact hj.2.1
 have ow:=ACY hl
 have pg:(vG .sh g).pl=true:=by simp only[go_sem]
 have ha:Bo 4 [vG .sh g,vJ j]=true:=by simp only[Bo,(V.PF _ pg).away];rfl
 obtain⟨f',hf',nw⟩:=ACl (a:=vG .sh g) (b:=vJ j) hl hj (N:=N) (w:=u) (by omega) (by omega) (by omega) ha
 have sa:=ACd hl hj
 have vok:=AFr hg'.2 j N u
 have vln:=ACX g j N u
 have vt:=XC (g:=g) (j:=j) (N:=N) (w:=u) (xs:=JA g j N u) (by omega) hf' (vG .sh g) (vJ j) (vG .sh g) (vJ j)
 have op:=AAL (g:=g) (j:=j) (N:=N) (w:=u) (xs:=JA g j N u) (f:=f') (vG .sh g) (vJ j) (vG .sh g) (vJ j) 0
 have rw_:=XD (g:=g) (j:=j) (N:=N) (w:=u) vok (by omega) hf' (vG .sh g) (vJ j) (vG .sh g) (vJ j) zOp
 have sp:=XE (g:=g) (j:=j) (N:=N) (w:=u) (xs:=JA g j N u) (f:=f') (vG .sh g) (vJ j) (vG .sh g) (vJ j) zOp
 have ro:=AFs (g:=g) (j:=j) hkn (n:=g.n.toNat) (N:=N) (w:=u) (by omega) (by omega) (by omega) rfl
 have sx:=AAI (l:=JA g j N u) (by omega)
 have rr:=AAG vok (by omega) .sh (Or.inr rfl)
 have eq:=eqA (KO (JA g j N u)) (KO (JA g j N u))
 rw[decide_eq_true rfl]at eq
 have nr:AY [vG .sh g,vJ j,.int .i64 (N:Int),.int .i64 (u:Int)]=[vG .sh g,vJ j,.int .i64 (N:Int),.int .i64 (u:Int)]:=by simp only[AY,(V.PF _ pg).norm];rfl
 have np:AA6 .eql (.ref 4 [] 103)=some (.bool false):=rfl
 have n0:AL .neq (.int .i64 0) (.int .i64 0)=some (.bool false):=rfl
 have e0:AL .eql (.int .i64 0) (.int .i64 0)=some (.bool true):=rfl
 have e30:AL .eql (.int .i64 30) (.int .i64 30)=some (.bool true):=rfl
 have nk:AY [V.ref 4 [] 103]=[V.ref 4 [] 103]:=rfl
 have nk0:AY [V.ref 4 [] 103,V.int .i64 0]=[V.ref 4 [] 103,V.int .i64 0]:=rfl
 have r1:∀h (l:List Vtx) a b,AA h [.lst 86 .sh (l.map BG),.int .i64 a,.int .i64 b]=[.lst 86 .sh (l.map BG),.int .i64 a,.int .i64 b]:=fun _ _ _ _=>rfl
 have r2:∀h (l m:List Vtx),AA h [.lst 86 .sh (l.map BG),.lst 86 .sh (m.map BG)]=[.lst 86 .sh (l.map BG),.lst 86 .sh (m.map BG)]:=fun _ _ _=>rfl
 have r3:∀h (l:List Vtx),AA h [.lst 86 .sh (l.map BG)]=[.lst 86 .sh (l.map BG)]:=fun _ _=>rfl
 rw[Xp]
 clear vok vln hj hg'
 generalize EH g.n.toNat j=AX at*
 generalize JA g j N u=xs at*
 generalize vrootB xs=rb at*
 (repeat' with_reducible first|refine(FD _ _).trans ?_|refine(Ee _ _).trans ?_|refine(AO _ _).trans ?_|((first|(refine' (AB ?_ _).trans ?_;rotate_left)|refine(if_pos ?_).trans ?_|refine(DF ?_ _ _).trans ?_);focus (first|rfl|(simp(disch:=first|assumption|omega|with_reducible rfl|(simp only[go_sem]<;>omega)|fail) only[↓reduceIte,↓AO,Nat.reduceAdd,go_sem,Bool.not_true,Bool.not_false,hA,rt,ow,nr,nw,sa,n0,np,nk,vt,nk0,op,r1,ro,r2,sx,rw_,r3,rr,eq,sp,e0,e30]<;>first|rfl|omega)|assumption|omega))|(refine(Bq ?_ _ _).trans ?_;focus (first|(simp(disch:=first|assumption|omega|with_reducible rfl|(simp only[go_sem]<;>omega)|fail) only[↓reduceIte,↓AO,Nat.reduceAdd,go_sem,Bool.not_true,Bool.not_false,hA,rt,ow,nr,nw,sa,n0,np,nk,vt,nk0,op,r1,ro,r2,sx,rw_,r3,rr,eq,sp,e0,e30]<;>omega)|assumption|omega))|fail)
 rfl
end
end Go.Proofs.YtoakaehjnbhgmaaGreatDoor
