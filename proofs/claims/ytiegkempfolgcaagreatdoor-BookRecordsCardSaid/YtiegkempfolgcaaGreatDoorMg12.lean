/-
  Part of the proof of a statement about the given program: an abstract machine over its code, the simulation, its functions' equations, what they compute.
-/
import Derived.Test.YtiegkempfolgcaaGreatDoorMg10
import Derived.Test.YtiegkempfolgcaaGreatDoorMg11
import Derived.Test.YtiegkempfolgcaaGreatDoorMg4
import Derived.Test.YtiegkempfolgcaaGreatDoorMg5
import Derived.Test.YtiegkempfolgcaaGreatDoorMg8
import Derived.Test.YtiegkempfolgcaaGreatDoorMg9
set_option linter.unusedVariables false
set_option linter.unusedSimpArgs false
set_option linter.unusedSectionVars false
set_option maxRecDepth 100000
noncomputable section
namespace Go.Proofs.YtiegkempfolgcaaGreatDoor
section
open Go AM
namespace Ed
structure Edg where
 fr:Nat
 to:Nat
 w:Int
 hf:fr<64
 ht:to<64
instance:Inhabited Edg:=⟨⟨0,0,0,by omega,by omega⟩⟩
def vEdg (e:Edg):V:= .agg 111 [.int .i64 (e.fr:Int),.int .i64 (e.to:Int),.int .i64 e.w]
def cmpE (x y:Edg):Int:=if x.fr=y.fr then(x.to:Int)-y.to else(x.fr:Int)-y.fr
def ltE (x y:Edg):Bool:=decide (cmpE x y<0)
@[go_sem] theorem ALv (x:Edg):(vEdg x).pl=true:=(rfl)
@[go_sem] theorem AKi (x:Edg):BJ 111 (vEdg x)=true:=Gj ..
theorem compare_am (x y:Edg):Cl 91 [vEdg x,vEdg y] []=some (.int .i64 (cmpE x y),[]):=by
 have h1:=x.hf;have h2:=x.ht;have h3:=y.hf;have h4:=y.ht
 rw[AHm,cmpE]
 by_cases h:x.fr=y.fr
 ·rw[if_pos h]
  simp only[vEdg]
  simp(disch:=first|assumption|omega|(with_reducible rfl)|(simp only[go_sem];done)|(simp only[go_sem];omega)|fail) only[↓reduceIte,↓AA,Nat.reduceAdd,go_sem,h]
 ·rw[if_neg h]
  have:¬(x.fr:Int)=(y.fr:Int):=by omega
  simp only[vEdg]
  simp(disch:=first|assumption|omega|(with_reducible rfl)|(simp only[go_sem];done)|(simp only[go_sem];omega)|fail) only[↓reduceIte,↓AA,Nat.reduceAdd,go_sem]
theorem ltE_iff (x y:Edg):ltE x y=true↔(x.fr<y.fr∨x.fr=y.fr∧x.to<y.to):=by
 rw[ltE,decide_eq_true_eq,cmpE]
 by_cases h:x.fr=y.fr
 ·rw[if_pos h];constructor<;>intro k<;>omega
 ·rw[if_neg h];constructor<;>intro k<;>omega
theorem ltE_iff' (x y:Edg):ltE x y=false↔¬(x.fr<y.fr∨x.fr=y.fr∧x.to<y.to):=by
 rw[←ltE_iff,Bool.not_eq_true]
abbrev cm:V:= .clo 91 []
def rowM (d:Array Edg):V:= .row 112 (d.toList.map vEdg)
def winM (id n:Nat):V:= .win id [] 0 n 112
def ML (e:Edg):Int×Int×Int:=(e.fr,e.to,e.w)
theorem ACT {α β:Type} (f:α→β) {r s:List β} (h:r.Perm s):∀l:List α,l.map f=s→∃l':List α,l'.Perm l∧l'.map f=r:=by
 induction h with
 |nil=>intro l hl;exact⟨l,List.Perm.refl _,hl⟩
 |cons x h ih=>
  intro l hl
  match l,hl with
  |y::l,hl=>
   simp only[List.map_cons,List.cons.injEq]at hl
   obtain⟨l',h1,h2⟩:=ih l hl.2
   exact⟨y::l',h1.cons y,by rw[List.map_cons,hl.1,h2]⟩
 |swap x y r=>
  intro l hl
  match l,hl with
  |a::b::l,hl=>
   simp only[List.map_cons,List.cons.injEq]at hl
   exact⟨b::a::l,List.Perm.swap a b l,by simp[hl]⟩
 |trans h1 h2 ih1 ih2=>
  intro l hl
  obtain⟨l1,a1,a2⟩:=ih2 l hl
  obtain⟨l2,b1,b2⟩:=ih1 l1 a2
  exact⟨l2,b1.trans a1,b2⟩
theorem TG (l:List Edg):∃l':List Edg,l'.Perm l∧l'.map ML=D7 1 (l.map ML):=ACT ML (H9 1 _) l rfl
def srtL (l:List Edg):List Edg:=Classical.choose (TG l)
theorem srtL_perm (l:List Edg):(srtL l).Perm l:=(Classical.choose_spec (TG l)).1
theorem U5 (l:List Edg):(srtL l).map ML=D7 1 (l.map ML):=(Classical.choose_spec (TG l)).2
theorem Wx (x:Edg):MZ 1 (ML x)=true:=by
 have:=x.hf;have:=x.ht
 refine Bool.or_eq_true_iff.2 (Or.inr ?_)
 simp only[Bool.and_eq_true,ML]
 refine⟨⟨⟨?_,?_⟩,?_⟩,?_⟩<;>exact decide_eq_true (by omega)
theorem Wy (x y:Edg):decide (Pm 1 (ML x) (ML y)<0)=ltE x y:=by
 rw[Bool.eq_iff_iff,decide_eq_true_eq,ltE_iff]
 unfold Pm cl3
 rw[if_pos (Wx x),if_pos (Wx y),AGd (by rfl)]
 simp only[ML];omega
theorem srtL_sorted (l:List Edg):(srtL l).Pairwise (fun a b=>ltE b a=false):=by
 have h:=(U4 1 (l.map ML)).2
 rw[←U5]at h
 rw[List.pairwise_iff_getElem]
 intro i j hi hj hij
 have hlen:=(srtL_perm l).length_eq
 have:=h i j (Nat.zero_le _) hij (by simp;omega)
 simp only[List.getElem!_toArray,List.getElem!_eq_getElem?_getD,List.getElem?_map,List.getElem?_eq_getElem hi,List.getElem?_eq_getElem hj,Option.map_some,Option.getD_some]at this
 rw[Wy]at this
 exact this
theorem ACU (u:TypeId):∀l:List Edg,(l.map vEdg).all (i3t 111)=true
 |[]=>rfl
 |x::l=>by rw[List.map_cons,List.all_cons,ACU u l];rfl
theorem AGe:∀l:List Edg,(l.map vEdg).all (fun x=>MZ 1 (t3 x))=true
 |[]=>rfl
 |x::l=>by rw[List.map_cons,List.all_cons,AGe l,Bool.and_true];exact Wx x
theorem AKj (l:List Edg):(l.map vEdg).map t3=l.map ML:=by rw[List.map_map];rfl
theorem AKk (l:List Edg):(l.map ML).map (WH 111)=l.map vEdg:=by rw[List.map_map];rfl
theorem sort_aps {h:List V} {id:Nat} {l:List Edg} (hh:h[id]?=some (rowM l.toArray)) (hl:l.length≤1000000):
 Zb 1000091 112 [winM id l.length,cm] h=some (.tup [],h.set id (rowM (srtL l).toArray)):=by
 have hd:1000091/1000000=1:=rfl
 have tg:(l.map vEdg).all (i3t (Rk (l.map vEdg)))=true:=by
  cases l with
  |nil=>rfl
  |cons x l=>exact ACU 0 (x::l)
 have mk:((D7 1 (l.map ML)).map (WH (Rk (l.map vEdg))))=(srtL l).map vEdg:=by
  rw[←U5]
  cases l with
  |nil=>rw[List.perm_nil.1 (srtL_perm [])];rfl
  |cons x l=>exact AKk _
 simp only[Zb,winM,rowM]at hh⊢
 have e1:Nat.beq l.length (l.map vEdg).length=true:=by simp
 have e2:Nat.ble (l.map vEdg).length C9=true:=by simp[C9,Nat.ble_eq];omega
 simp only[hh,hd]
 rw[if_pos (by simp only[tg,AGe,e1,e2];rfl),AKj,mk]
end Ed
end
section
open Go AM
structure E0 where
 fr:Int
 to:Int
 w:Int
 deriving DecidableEq
abbrev tE:TypeId:=111
def W9 (e:E0):V:= .agg tE [.int .i64 e.fr,.int .i64 e.to,.int .i64 e.w]
@[go_sem] theorem AM7 (x:E0):(W9 x).pl=true:=(rfl)
@[go_sem] theorem ALw (l:List E0):Fj (l.map W9)=true:=DK (fun _=>rfl) l
@[go_sem] theorem ALx (x:E0):BJ tE (W9 x)=true:=Gj ..
theorem AGf {l:List E0} {i:Nat} (h:i<l.length):(l.map W9)[i]?=some (W9 l[i]):=by simp[h]
structure Grf where
 n:Int
 es:List E0
abbrev vG (f:Fl) (g:Grf):V:= .agg 23 [.int .i64 g.n,.lst 112 f (g.es.map W9)]
def GL (n:Int) (e:E0):Bool:=decide (e.fr<0)||decide (n≤e.fr)||decide (e.to<0)||decide (n≤e.to)||decide (e.w<0)||decide (1048576<e.w)
abbrev rG:V:= .ref 0 [] 24
theorem AII (n:Int) (l:V) (e:E0):Cl 87 [W9 e,rG] [.agg 23 [.int .i64 n,l]]=some (.bool (GL n e),[.agg 23 [.int .i64 n,l]]):=by
 rw[AHi]
 simp only[W9]
 repeat' first|rfl|refine AEu (fun _=> ?_) (fun _=> ?_)|refine AEv (fun _=> ?_) (fun _=> ?_)|simp(disch:=first|assumption|omega|(with_reducible rfl)|(simp only[go_sem];done)|(simp only[go_sem];omega)|fail) only[↓reduceIte,↓AA,Nat.reduceAdd,go_sem]
 all_goals (simp_all [GL]<;>omega)
abbrev AEw:V:= .clo 87 [rG]
theorem AKl {R:Type} (n:Int) (l:V) (e:E0) (k:V→List V→Option R):CP P D9 W AEw [W9 e] [.agg 23 [.int .i64 n,l]] k=k (.bool (GL n e)) [.agg 23 [.int .i64 n,l]]:=
 Qm k (by kernel_rfl) (by kernel_rfl) (AII n l e)
def Fq {α:Type} (p:α→Bool):Nat→List α→Int
 |_,[]=> -1
 |i,x::l=>if p x=true then(i:Int)else Fq p (i+1) l
theorem U6 {α:Type} (p:α→Bool):∀(l:List α) (i:Nat),0≤Fq p i l↔l.any p=true
 |[],i=>by simp[Fq]
 |x::l,i=>by
  rw[Fq,List.any_cons]
  by_cases h:p x=true
  ·rw[if_pos h,h];simp
  ·rw[if_neg h,U6 p l (i+1)];simp[h]
theorem TI {α:Type} (p:α→Bool) (l:List α) (i:Nat):decide (0≤Fq p i l)=l.any p:=by
 rw[Bool.eq_iff_iff,decide_eq_true_eq];exact U6 p l i
theorem AEx (n:Int) (L:V) (es:List E0) (hl:es.length<1000000) (f:Fl):∀(m i:Nat),i+m=es.length→
 La (.lst 112 f (es.map W9)) AEw (.int .i64 (es.length:Int)) (.int .i64 (i:Int)) 1 [.agg 23 [.int .i64 n,L]]=
  some (.int .i64 (Fq (GL n) i (es.drop i)),[.agg 23 [.int .i64 n,L]]):=by
 intro m
 induction m with
 |zero=>
  intro i hi
  rw[List.drop_eq_nil_of_le (by omega),NQ]
  simp(disch:=first|assumption|omega|(with_reducible rfl)|(simp only[go_sem];done)|(simp only[go_sem];omega)|fail) only[↓reduceIte,↓AA,Nat.reduceAdd,go_sem,Fq]
 |succ m ih=>
  intro i hi
  have h:i<es.length:=by omega
  have:=ih (i+1) (by omega)
  rw[List.drop_eq_getElem_cons h,Fq,NQ]
  by_cases ho:GL n es[i]=true
  ·rw[if_pos ho]
   simp(disch:=first|assumption|omega|(with_reducible rfl)|(simp only[go_sem];done)|(simp only[go_sem];omega)|fail) only[↓reduceIte,↓AA,Nat.reduceAdd,go_sem,AGf h,AKl,ho]
  ·rw[if_neg ho,←this]
   simp(disch:=first|assumption|omega|(with_reducible rfl)|(simp only[go_sem];done)|(simp only[go_sem];omega)|fail) only[↓reduceIte,↓AA,Nat.reduceAdd,go_sem,AGf h,AKl,ho]
theorem AEy (n:Int) (L:V) {es:List E0} (hl:es.length<1000000) (f:Fl):Cl 88 [.lst 112 f (es.map W9),AEw] [.agg 23 [.int .i64 n,L]]=some (.bool (es.any (GL n)),[.agg 23 [.int .i64 n,L]]):=by
 have h:=fun f=>AEx n L es hl f es.length 0 (by omega)
 simp only[c0,List.drop_zero]at h
 have ix:∀f,Cl 112 [.lst 112 f (es.map W9),AEw] [.agg 23 [.int .i64 n,L]]=some (.int .i64 (Fq (GL n) 0 es),[.agg 23 [.int .i64 n,L]]):=fun f=>by
  rw[←h f,AEC]
  simp(disch:=first|assumption|omega|(with_reducible rfl)|(simp only[go_sem];done)|(simp only[go_sem];omega)|fail) only[↓reduceIte,↓AA,Nat.reduceAdd,go_sem]
 rw[AHj,←TI (GL n) es 0]
 simp(disch:=first|assumption|omega|(with_reducible rfl)|(simp only[go_sem];done)|(simp only[go_sem];omega)|fail) only[↓reduceIte,↓AA,Nat.reduceAdd,go_sem,ix]
def ACV (n:Int) (e:E0) (h:GL n e=false) (hn:n≤64):Ed.Edg:=⟨e.fr.toNat,e.to.toNat,e.w,by simp[GL]at h;omega,by simp[GL]at h;omega⟩
theorem ACW {n:Int} (hn:n≤64):∀es:List E0,es.any (GL n)=false→∃l:List Ed.Edg,l.map Ed.vEdg=es.map W9∧l.map (fun x=>((x.fr:Int),(x.to:Int)))=es.map fun e=>(e.fr,e.to)
 |[],_=>⟨[],rfl,rfl⟩
 |e::es,h=>by
  rw[List.any_cons,Bool.or_eq_false_iff]at h
  obtain⟨l,h1,h2⟩:=ACW hn es h.2
  have hb:=h.1
  simp only[GL,Bool.or_eq_false_iff,decide_eq_false_iff_not]at hb
  refine⟨ACV n e h.1 hn::l,?_,?_⟩
  ·rw[List.map_cons,List.map_cons,h1,Ed.vEdg,W9,ACV]
   simp only[]
   rw[show(e.fr.toNat:Int)=e.fr by omega,show(e.to.toNat:Int)=e.to by omega]
  ·rw[List.map_cons,List.map_cons,h2,ACV]
   simp only[]
   rw[show(e.fr.toNat:Int)=e.fr by omega,show(e.to.toNat:Int)=e.to by omega]
abbrev Px (f:Fl) (l:List Ed.Edg):V:= .lst 112 f (l.map Ed.vEdg)
def Dq (l:List Ed.Edg):List Ed.Edg:=Ed.srtL l
theorem OV (l:List Ed.Edg):(Dq l).Perm l:=Ed.srtL_perm l
theorem Qo (l:List Ed.Edg):(Dq l).length=l.length:=(OV l).length_eq
theorem Zr (a:V) (f:Fl) (l:List Ed.Edg):Cl 90 [Px .sh l] [a]=some (.clo 115 [.ref 1 [] 22],[a,Px .sh l]):=by
 rw[AHl]
 simp(disch:=first|assumption|omega|(with_reducible rfl)|(simp only[go_sem];done)|(simp only[go_sem];omega)|fail) only[↓reduceIte,↓AA,Nat.reduceAdd,go_sem]
 rfl
theorem AIJ (l:List Ed.Edg):(l.map Ed.vEdg).all i3=true:=by simp[Ed.vEdg,i3]
theorem XA (a:V) {l:List Ed.Edg} (hl:l.length≤1000000):Cl 113 [.clo 115 [.ref 1 [] 22]] [a,Px .sh l]=some (Ed.winM 2 l.length,[a,Px .sh l,Ed.rowM l.toArray]):=by
 rw[AED]
 have ap:Zb 115 112 [.lst 112 .nil [],.clo 115 [.ref 1 [] 22]] [a,Px .sh l]=some (Ed.winM 2 l.length,[a,Px .sh l,Ed.rowM l.toArray]):=by
  simp only[Zb,List.getElem?_cons_succ,List.getElem?_cons_zero,AIJ,List.length_map]
  rw[if_pos (by simp[C9,Nat.ble_eq];omega)]
  simp[Ed.winM,Ed.rowM]
 rw[ap];rfl
theorem XB (a:V) {l:List Ed.Edg} (hl:l.length≤1000000):Cl 89 [.clo 115 [.ref 1 [] 22],Ed.cm] [a,Px .sh l]=some (Px .sh (Dq l),[a,Px .sh l]):=by
 have c:=XA a hl
 have s:Zb 1000091 112 [Ed.winM 2 l.length,Ed.cm] [a,Px .sh l,Ed.rowM l.toArray]=some (.tup [],[a,Px .sh l,Ed.rowM (Dq l).toArray]):=Ed.sort_aps rfl hl
 have ct:Af [a,Px .sh l,Ed.rowM (Dq l).toArray] (Ed.winM 2 l.length)=some ((Dq l).map Ed.vEdg):=by
  simp[Af,Ed.winM,rd,V.at,V.items,Ed.rowM]
  rw[←Qo l];exact List.take_of_length_le (by simp)
 have cl:AU ((Dq l).map Ed.vEdg)=true:=Zp (DK (fun _=>rfl) _)
 have nl:AP ((Dq l).map Ed.vEdg)=(Dq l).map Ed.vEdg:=ACN (DK (fun _=>rfl) _)
 have fin:AY 2 [a,Px .sh l,Ed.rowM (Dq l).toArray] (Ed.winM 2 l.length)=some (Px .sh (Dq l),[a,Px .sh l]):=by
  have u:(Ed.winM 2 l.length).unmut [a,Px .sh l,Ed.rowM (Dq l).toArray]=Px .sh (Dq l):=by
   rw[Ed.winM]at ct⊢
   simp only[V.unmut,ct,cl,nl,if_true]
  simp only[AY,u];rfl
 rw[AHk]
 refine(AB c _).trans ?_
 refine(AB s _).trans ?_
 exact fin
def U7:Ed.Edg→List Ed.Edg→Bool
 |_,[]=>false
 |x,y::r=>decide (Ed.cmpE x y=0)||U7 y r
@[go_sem] theorem ALy (l:List Ed.Edg):Fj (l.map Ed.vEdg)=true:=DK (fun _=>rfl) l
theorem TJ {l:List Ed.Edg} {i:Nat} (h:i<l.length):(l.map Ed.vEdg)[i]?=some (Ed.vEdg l[i]):=by simp[h]
theorem AEz (a b:V) {l:List Ed.Edg} (hl:l.length≤1000000):∀(n i:Nat) (hi:i<l.length),i+1+n=l.length→
 NI (Px .sh l) (.int .i64 ((i+1:Nat):Int)) [a,b]=some (.int .i64 (if U7 l[i] (l.drop (i+1))=true then 51 else 0),[]):=by
 intro n
 induction n with
 |zero=>
  intro i hi hn
  rw[List.drop_eq_nil_of_le (by omega),U7,J7]
  simp(disch:=first|assumption|omega|(with_reducible rfl)|(simp only[go_sem];done)|(simp only[go_sem];omega)|fail) only[↓reduceIte,↓AA,Nat.reduceAdd,go_sem]
  rfl
 |succ n ih=>
  intro i hi hn
  have h:i+1<l.length:=by omega
  have:=ih (i+1) h (by omega)
  rw[List.drop_eq_getElem_cons h,U7,J7]
  by_cases hc:Ed.cmpE l[i] l[i+1]=0
  ·rw[decide_eq_true hc,Bool.true_or,if_pos rfl]
   simp(disch:=first|assumption|omega|(with_reducible rfl)|(simp only[go_sem];done)|(simp only[go_sem];omega)|fail) only[↓reduceIte,↓AA,Nat.reduceAdd,go_sem,TJ hi,TJ h,Ed.compare_am,hc,Nat.add_sub_cancel]
  ·rw[decide_eq_false hc,Bool.false_or,←this]
   simp(disch:=first|assumption|omega|(with_reducible rfl)|(simp only[go_sem];done)|(simp only[go_sem];omega)|fail) only[↓reduceIte,↓AA,Nat.reduceAdd,go_sem,TJ hi,TJ h,Ed.compare_am,Nat.add_sub_cancel]
def JW (x:Ed.Edg):Int×Int:=((x.fr:Int),(x.to:Int))
theorem AE0 (x y:Ed.Edg):Ed.cmpE x y=0↔JW x=JW y:=by
 rw[Ed.cmpE,JW,JW,Prod.mk.injEq]
 by_cases h:x.fr=y.fr
 ·rw[if_pos h];omega
 ·rw[if_neg h];omega
theorem U8 {x y:Ed.Edg} (h:Ed.ltE y x=false) (hn:JW x≠JW y):Ed.ltE x y=true:=by
 rw[Ed.ltE_iff']at h
 rw[Ed.ltE_iff]
 simp only[JW,ne_eq,Prod.mk.injEq]at hn
 omega
theorem Yw:∀(r:List Ed.Edg) (x:Ed.Edg),(x::r).Pairwise (fun a b=>Ed.ltE b a=false)→(U7 x r=false↔((x::r).map JW).Nodup)
 |[],x,_=>by simp[U7]
 |y::r,x,h=>by
  obtain⟨h1,h2⟩:=List.pairwise_cons.1 h
  have ih:=Yw r y h2
  rw[U7,Bool.or_eq_false_iff,ih,decide_eq_false_iff_not,AE0,List.map_cons (l:=y::r),List.nodup_cons]
  refine and_congr_left fun hd=>⟨fun hn hm=> ?_,fun hm he=>hm (by rw[he];simp)⟩
  obtain⟨z,hz,he⟩:=List.mem_map.1 hm
  rcases List.mem_cons.1 hz with rfl|hz
  ·exact hn he.symm
  ·have a:=U8 (h1 y List.mem_cons_self) hn
   have b:=(List.pairwise_cons.1 h2).1 z hz
   rw[Ed.ltE_iff]at a
   rw[Ed.ltE_iff']at b
   simp only[JW,Prod.mk.injEq]at he
   omega
theorem TL (l:List Ed.Edg):(Dq l).Pairwise (fun a b=>Ed.ltE b a=false):=Ed.srtL_sorted l
def TM (g:Grf):Int:=if 1≤g.n∧g.n≤64∧g.es.length≤512∧g.es.any (GL g.n)=false then(if(g.es.map fun e=>(e.fr,e.to)).Nodup then 0 else 51)else 50
theorem Zt {g:Grf} (hl:g.es.length<1000000):Cl 61 [vG .sh g] []=some (.int .i64 (TM g),[]):=by
 have an:=AEy g.n (.lst 112 .sh (g.es.map W9)) hl .sh
 by_cases h1:g.n<1
 ·rw[TM,if_neg (by omega),NJ]
  simp(disch:=first|assumption|omega|(with_reducible rfl)|(simp only[go_sem];done)|(simp only[go_sem];omega)|fail) only[↓reduceIte,↓AA,Nat.reduceAdd,go_sem]
 by_cases h2:64<g.n
 ·rw[TM,if_neg (by omega),NJ]
  simp(disch:=first|assumption|omega|(with_reducible rfl)|(simp only[go_sem];done)|(simp only[go_sem];omega)|fail) only[↓reduceIte,↓AA,Nat.reduceAdd,go_sem]
 by_cases h3:512<g.es.length
 ·rw[TM,if_neg (by omega),NJ]
  simp(disch:=first|assumption|omega|(with_reducible rfl)|(simp only[go_sem];done)|(simp only[go_sem];omega)|fail) only[↓reduceIte,↓AA,Nat.reduceAdd,go_sem]
 by_cases h4:g.es.any (GL g.n)=true
 ·rw[TM,if_neg (by rw[h4];simp),NJ]
  simp(disch:=first|assumption|omega|(with_reducible rfl)|(simp only[go_sem];done)|(simp only[go_sem];omega)|fail) only[↓reduceIte,↓AA,Nat.reduceAdd,go_sem,an,h4]
 have h4:g.es.any (GL g.n)=false:=by simpa using h4
 obtain⟨l,l1,l2⟩:=ACW (by omega) g.es h4
 have hlen:l.length=g.es.length:=by have:=congrArg List.length l1;simpa using this
 have v:=Zr (vG .sh g) .sh l
 have st:=XB (vG .sh g) (l:=l) (by omega)
 have hsl:=Qo l
 have hnd:(g.es.map fun e=>(e.fr,e.to)).Nodup↔((Dq l).map JW).Nodup:=by
  rw[←l2];exact(((OV l).map JW).nodup_iff).symm
 have so:=TL l
 rw[TM,if_pos ⟨by omega,by omega,by omega,h4⟩]
 have e:(if(g.es.map fun e=>(e.fr,e.to)).Nodup then(0:Int)else 51)=(if((Dq l).map JW).Nodup then(0:Int)else 51):=by
  by_cases hh:(g.es.map fun e=>(e.fr,e.to)).Nodup
  ·rw[if_pos hh,if_pos (hnd.1 hh)]
  ·rw[if_neg hh,if_neg (fun k=>hh (hnd.2 k))]
 rw[e]
 have rest:NI (Px .sh (Dq l)) (.int .i64 1) [vG .sh g,Px .sh l]=some (.int .i64 (if((Dq l).map JW).Nodup then(0:Int)else 51),[]):=by
  cases hs:Dq l with
  |nil=>
   rw[J7]
   simp(disch:=first|assumption|omega|(with_reducible rfl)|(simp only[go_sem];done)|(simp only[go_sem];omega)|fail) only[↓reduceIte,↓AA,Nat.reduceAdd,go_sem]
   rfl
  |cons x r=>
   have:=AEz (vG .sh g) (Px .sh l) (l:=x::r) (by rw[←hs];omega) r.length 0 (by simp) (by simp;omega)
   simp only[Nat.zero_add,c1,List.getElem_cons_zero,List.drop_succ_cons,List.drop_zero]at this
   rw[this]
   rw[hs]at so
   have ai:=Yw r x so
   by_cases hh:((x::r).map JW).Nodup
   ·rw[if_pos hh,if_neg (by rw[ai.2 hh];simp)]
   ·rw[if_neg hh,if_pos (by cases ha:U7 x r with
     |true=>rfl
     |false=>exact absurd (ai.1 ha) hh)]
 have l3:l.length≤512:=by omega
 simp only[vG,←l1]at an v st rest⊢
 rw[NJ]
 generalize Dq l=s at*
 simp(disch:=first|assumption|omega|(with_reducible rfl)|(simp only[go_sem];done)|(simp only[go_sem];omega)|fail) only[↓reduceIte,↓AA,Nat.reduceAdd,go_sem,an,h4,v,st,rest]
end
section
open Go AM
def I64 (n:Int):Prop:= -9223372036854775808≤n∧n<9223372036854775808
end
section
open Go AM
structure Vtx where
 id:Int
 val:Int
 act:Bool
 has:Bool
 inn:Int
 deriving DecidableEq
def VOk (x:Vtx):Prop:=I64 x.id∧I64 x.val∧I64 x.inn
abbrev tVx:TypeId:=80
def Ic (x:Vtx):V:= .agg tVx [.int .i64 x.id,.int .i64 x.val,.bool x.act,.bool x.has,.int .i64 x.inn]
@[go_sem] theorem AM9 (x:Vtx):(Ic x).pl=true:=(rfl)
@[go_sem] theorem AE1 (l:List Vtx):Fj (l.map Ic)=true:=DK (fun _=>rfl) l
@[go_sem] theorem ALz (x:Vtx):BJ tVx (Ic x)=true:=Gj ..
@[go_sem] theorem AL0 (l:List Vtx):(l.map Ic).all (BJ tVx)=true:=all_map (fun _=>Gj ..) l
theorem AKm {l:List Vtx} {i:Nat} (h:i<l.length):(l.map Ic)[i]?=some (Ic l[i]):=by simp[h]
end
section
open Go AM
abbrev iv (n:Nat):V:= .int .i64 (n:Int)
theorem Yx {B:Type} {h:List V} {x:Int} (h0:0≤x) (h1:x<9223372036854775808) (K:V→Option B):(conv P h 3 93 (.int .i64 x)).bind K=K (.int .u64 (x.toNat:Int)):=by
 refine(AB (Cf N9 ..) _).trans ?_
 rw[wrap_u64 (by omega) (by omega)]
 congr 2;omega
def sL (f:Fl) (l:List (List UInt8)):V:= .lst 9 f (l.map V.str)
theorem AGg (s:List UInt8):BQ P 9 (.str s)=true:=by simp[BQ,K_9,Bd,QW]
theorem AIL (n:Nat) (h:List V) (f:Fl) (hf:f≠ .lent) (l:List (List UInt8)):AY n h (sL f l)=some (sL .sh l,h.take n):=by
 cases f<;>first|exact absurd rfl hf|rfl
theorem Qp:∀(n:Nat) (l:List (List UInt8)),Ad n (l.map V.str)=true
 |_,[]=>rfl
 |n,x::l=>by simp only[List.map_cons,Ad,Qp n l];rfl
theorem ACX (n:Nat) (f:Fl) (l:List (List UInt8)):(sL f l).under n=true:=by cases f<;>first|rfl|exact Qp n l
theorem AKn {B:Type} {f:Fl} {h:List V} {l:List (List UInt8)} (hf:OK f) (hl:l.length+1≤2147483648) (x:List UInt8) (K':V→Option B):
 (EO P 58 1 [(0,.str x)]).bind (fun y=>(D5 P 58 h (sL f l) y).bind K')=K' (sL .own (l++[x])):=by
 refine(AB (AGY AET (AGg x) rfl AHt ⟨_,rfl⟩) _).trans ?_
 have t1:F8 P 9 [V.str x]=true:=by simp[F8,AGg]
 refine(AB (AEl AET hf (y:=V.lst 9 .own [.str x]) rfl rfl t1 (by simpa using hl) AHt) _).trans ?_
 rw[sL,List.map_append];rfl
end
section
open Go AM
theorem AKo (a b:List UInt8):EO P 182 2 [(0,bL .own a),(1,bL .own b)]=some (.lst 68 .own (parts [(.sh,a),(.sh,b)])):=by
 simp[EO,OA,CS,tyB,cp,AGO,bL,List.replicate,AU,V.clean,DY,AP,V.norm,V.weak,parts,part,Gf,BQ]
theorem AKp (f g:Fl) (a b:List UInt8):flat [(f,a),(g,b)]=a++b:=by simp[flat]
theorem AE2 {s:List UInt8} (hs:s.length<2147000000):Cl 118 [.str s] []=some (BB (Yo (0::s)),[]):=by
 rw[AEG,YN,YO,AEr]
 refine(AB (U0 0 (by omega)) _).trans<|(AGZ (by omega) _).trans<|(AB (AKo _ _) _).trans ?_
 obtain⟨f',L',e1,e2,e3⟩:=Kv ([]++[BB (List.replicate 32 0)]) .own [(.sh,[UInt8.ofNat 0]),(.sh,s)]
 have er:AL ([]++[BB (List.replicate 32 0)]) [.lst 68 .own (parts [(.sh,[UInt8.ofNat 0]),(.sh,s)])]=[.lst 68 f' (parts L')]:=by simp only[AL,e1]
 rw[er]
 rw[AKp]at e2
 refine(AB (Yr L' (by rw[e3];simp) f' (by rw[e2];simp;omega) (by rw[e2];simp)) _).trans ?_
 refine(AB (EF (P:=P) (h:=[]++[BB (List.replicate 32 0)]) (id:=0) rfl (Yp _) (Yq _ _)) _).trans ?_
 refine(AB (DI (h:=[BB (Yo (flat L'))]) (id:=0) (v:=BB (Yo (flat L'))) (FM rfl)) _).trans ?_
 rw[TB,e2];rfl
theorem AIM {B:Type} {a b:List UInt8} (h:a.length+b.length≤4611686018427387904) (K:V→Option B):(AO .add (.str a) (.str b)).bind K=K (.str (a++b)):=AB (AGW a b h) K
end
section
open Go AM
theorem AIN (a b c:List UInt8) (id:Nat) (h:List V):EO P 182 3 [(0,bL .own a),(1,bL .own b),(2,.win id [] 0 32 5)]=some (.lst 68 .lent [bL .sh a,bL .sh b,.win id [] 0 32 5]):=by
 simp[EO,OA,CS,tyB,cp,AGO,bL,List.replicate,AU,V.clean,DY,AP,V.norm,V.weak,Gf,BQ]
theorem ANA {id:Nat}:LV P 55 (.ref id [] 55) none none none=some (.win id [] 0 32 5):=by
 simp[LV,AES,BU]
theorem TN {h:List V} {id:Nat} {c:List UInt8} (hh:h[id]?=some (BB c)) (hc:c.length=32):V.reify h (.win id [] 0 32 5)=bL .lent c:=by
 have:Af h (.win id [] 0 32 5)=some (bytesOf c):=by
  simp[Af,rd,hh,V.at,V.items,BB]
  rw[List.take_of_length_le (by rw[Ai];omega)]
 simp only[V.reify,this,Bf,Ec,if_true,bL]
def ACY (n:Nat) (t:List UInt8):List UInt8:=Yo ([3]++Aa n++t)
theorem AE3 {n:Nat} {t:List UInt8} (hn:n<1000000000) (ht:t.length=32):Cl 94 [iv n,BB t] []=some (BB (ACY n t),[]):=by
 have c1:(BQ P 55 (BB t)&&V.under (List.length ([]:List V)) (BB t))=true:=by rw[Yp,Yq];rfl
 have nb:=Ac 10 n
 rw[AHp,ABu,if_pos c1,AEr,ABv]
 refine(AB (FU _) _).trans ?_
 rw[ABw]
 refine(Yx (by omega) (by omega) _).trans ?_
 have e1:AP [BK (([]++[BB t])++[BB (List.replicate 32 0)]:List V).length,V.int .u64 ((n:Int).toNat:Int)]=[BK 2,V.int .u64 (n:Int)]:=rfl
 rw[e1]
 refine(AB (Cm (id:=2) (h:=(([]++[BB t])++[BB (List.replicate 32 0)])++[Ar .nil []]) rfl (Or.inr rfl) (by omega) (by simp)) _).trans ?_
 rw[ABx]
 have eh:((([]++[BB t])++[BB (List.replicate 32 0)])++[Ar .nil []]:List V).set 2 (Ar .own ([]++Aa n))=[BB t,BB (List.replicate 32 0),Ar .own (Aa n)]:=rfl
 rw[eh]
 refine(AB (U0 3 (by omega)) _).trans ?_
 refine(AB (Ee (id:=2) (h:=[BB t,BB (List.replicate 32 0),Ar .own (Aa n)]) rfl) _).trans ?_
 refine(AGZ (by rw[Aa];omega) _).trans<|(AB ANA _).trans<|(AB (AIN [UInt8.ofNat 3] (Aa n) [] 0 []) _).trans ?_
 have er:AL [BB t,BB (List.replicate 32 0),Ar .own (Aa n)] [.lst 68 .lent [bL .sh [UInt8.ofNat 3],bL .sh (Aa n),.win 0 [] 0 32 5]]=[.lst 68 .lent (parts [(.sh,[UInt8.ofNat 3]),(.sh,Aa n),(.lent,t)])]:=by
  have w:=TN (h:=[BB t,BB (List.replicate 32 0),Ar .own (Aa n)]) (id:=0) (c:=t) rfl ht
  show[V.lst 68 .lent [V.reify _ (bL .sh [UInt8.ofNat 3]),V.reify _ (bL .sh (Aa n)),V.reify [BB t,BB (List.replicate 32 0),Ar .own (Aa n)] (.win 0 [] 0 32 5)]]=_
  rw[w];rfl
 rw[er]
 have ef:flat [(.sh,[UInt8.ofNat 3]),(.sh,Aa n),(.lent,t)]=[3]++Aa n++t:=by simp[flat]
 refine(AB (Yr _ (by simp) .lent (by rw[ef];simp only[List.length_append,Aa];simp;omega) (by rw[ef];simp)) _).trans ?_
 rw[ef]
 refine(AB (EF (P:=P) (h:=[BB t,BB (List.replicate 32 0),Ar .own (Aa n)]) (id:=1) rfl (Yp _) (Yq _ _)) _).trans ?_
 refine(AB (DI (h:=[BB t,BB (Yo ([3]++Aa n++t)),Ar .own (Aa n)]) (id:=1) (v:=BB (Yo ([3]++Aa n++t))) (FM rfl)) _).trans ?_
 exact TB _ _ _
theorem AIO:∀(k n:Nat),n<128^k→0<k→k≤10→n<18446744073709551616→Cl 51 [.int .u64 (n:Int)] []=some (.str (Ia k n),[]):=by
 intro k
 induction k with
 |zero=>intro n _ h _ _;omega
 |succ k ih=>
  intro n hn _ hk h64
  have cv:∀(l:List UInt8) (K:V→Option (V×List V)),(conv P [] 68 9 (bL .own l)).bind K=K (.str l):=fun l K=>AB (by simp[conv,QW,J9,KY,bL,Af,I4]) K
  rw[AHU,ABZ,ABa,Ia]
  by_cases hb:n<128
  ·refine(Iw (by omega) _).trans ?_
   rw[BV,ABb,if_pos hb]
   refine(cv8 _).trans ?_
   rw[Nat.mod_eq_of_lt (by omega)]
   refine(AB (U0 n (by omega)) _).trans<|(cv _ _).trans ?_
   rw[MF];rfl
  ·refine(Iy (by omega) _).trans ?_
   rw[BP,ABc,if_neg hb]
   refine(AKA (b:=128) (by decide) _).trans<|(AJ8 (b:=128) (by omega) _).trans<|(cv8 _).trans ?_
   rw[Nat.mod_eq_of_lt (show n%128+128<256 by omega)]
   refine(AB (U0 _ (by omega)) _).trans<|(cv _ _).trans<|(AJ9 (b:=128) (by decide) h64 _).trans ?_
   have k0:0<k:=by
    rcases Nat.eq_zero_or_pos k with h|h
    ·subst h;simp at hn;omega
    ·exact h
   refine(AB (ih (n/128) (by rw[Nat.pow_succ]at hn;omega) k0 (by omega) (by omega)) _).trans ?_
   have:=Ac k (n/128)
   refine(AIM (by simp;omega) _).trans ?_
   rw[MF];rfl
theorem DZ {n:Nat} (h:n<18446744073709551616):Cl 51 [.int .u64 (n:Int)] []=some (.str (Aa n),[]):=AIO 10 n (Nat.lt_of_lt_of_le h (by decide)) (by omega) (by omega) h
end
section
open Go AM
@[go_sem] theorem I8 (l:List UInt8):(BB l).pl=true:=Qi l
@[go_sem] theorem MN (l:List UInt8):BJ 54 (BB l)=true:=Gj ..
theorem OW:V.agg 54 (List.replicate 32 (V.int .u8 0))=BB (List.replicate 32 0):=rfl
@[go_sem] theorem JX (l:List (List UInt8)):Fj (l.map V.str)=true:=DK (fun _=>rfl) l
@[go_sem] theorem AKq (l:List (List UInt8)):(l.map V.str).all tyS=true:=all_map (fun _=>rfl) l
@[go_sem] theorem ANB (l:List UInt8):Fj (bytesOf l)=true:=Qi l
def OX (n:Nat):Nat→Nat→Nat
 |0,k=>k
 |f+1,k=>if 2*k<n then OX n f (2*k)else k
def OY (n:Nat):Nat:=OX n 62 1
theorem U9 (n:Nat):∀(f k:Nat),0<k→k<n→0<OX n f k∧OX n f k<n
 |0,k,h,h2=>⟨h,h2⟩
 |f+1,k,h,h2=>by
  rw[OX];split
  ·exact U9 n f (2*k) (by omega) (by omega)
  ·exact⟨h,h2⟩
theorem ANC {n k f:Nat} (h:n<k*2^(f+1)):n<2*k*2^f:=by
 rw[Nat.pow_succ]at h
 have e:k*(2^f*2)=2*k*2^f:=by rw[Nat.mul_comm 2 k,Nat.mul_assoc,Nat.mul_comm (2^f)]
 omega
theorem AE4 (n:Nat) (hn:n<2^61):∀(f k:Nat),0<k→k≤n→n<k*2^f→Ll (iv n) (iv k)=some (iv (OX n f k),[]):=by
 intro f
 induction f with
 |zero=>intro k h h2 h3;omega
 |succ f ih=>
  intro k h h2 h3
  rw[Wi,OX]
  have h2':(2:Int)*(k:Int)=((2*k:Nat):Int):=by omega
  by_cases hk:2*k<n
  ·rw[if_pos hk]
   refine(AB (AKY (by omega) (by omega)) _).trans<|(Iw (by omega) _).trans ?_
   rw[BV]
   refine(AB (AKZ (by omega) (by omega)) _).trans ?_
   rw[show(k:Int)*2=((2*k:Nat):Int)by omega]
   exact ih (2*k) (by omega) (by omega) (ANC h3)
  ·rw[if_neg hk]
   refine(AB (AKY (by omega) (by omega)) _).trans<|(Iy (by omega) _).trans ?_
   rfl
theorem AE5 {n:Nat} (h2:2≤n) (hn:n<2^61):Cl 119 [iv n] []=some (iv (OY n),[]):=by
 rw[AEH]
 refine(Iy (by omega) _).trans ?_
 rw[BP]
 exact AE4 n hn 62 1 (by omega) (by omega) (by omega)
def AGh (a b:List UInt8):List UInt8:=Yo ([1]++a++b)
theorem AE6 {a b:List UInt8} (ha:a.length=32) (hb:b.length=32):Cl 120 [BB a,BB b] []=some (BB (AGh a b),[]):=by
 have er:V.reify [BB a,BB b,BB (List.replicate 32 0)] (.lst 68 .lent [bL .sh [1],.win 0 [] 0 32 5,.win 1 [] 0 32 5])= .lst 68 .lent (parts [(.sh,[1]),(.lent,a),(.lent,b)]):=by
  have w:=TN (h:=[BB a,BB b,BB (List.replicate 32 0)]) (id:=0) (c:=a) rfl ha
  have w':=TN (h:=[BB a,BB b,BB (List.replicate 32 0)]) (id:=1) (c:=b) rfl hb
  show V.lst 68 .lent [V.reify _ (bL .sh [1]),V.reify [BB a,BB b,BB (List.replicate 32 0)] (.win 0 [] 0 32 5),V.reify [BB a,BB b,BB (List.replicate 32 0)] (.win 1 [] 0 32 5)]=_
  rw[w,w'];rfl
 have ef:flat [(.sh,[1]),(.lent,a),(.lent,b)]=[1]++a++b:=by simp[flat]
 rw[AEI,OW]
 simp(disch:=first|assumption|omega|(with_reducible rfl)|(simp only[go_sem];done)|(simp only[go_sem];omega)|fail) only[↓reduceIte,↓AA,Nat.reduceAdd,go_sem]
 refine(AB (show KX 68 true (some [.lst 5 .sh [.int .u8 1],(V.win 0 [] 0 32 5).weak,(V.win 1 [] 0 32 5).weak])=some (.lst 68 .lent [bL .sh [1],.win 0 [] 0 32 5,.win 1 [] 0 32 5])from rfl) _).trans ?_
 rw[er]
 refine(AB (Yr _ (by simp) .lent (by rw[ef];simp;omega) (by rw[ef];simp)) _).trans ?_
 rw[ef]
 simp(disch:=first|assumption|omega|(with_reducible rfl)|(simp only[go_sem];done)|(simp only[go_sem];omega)|fail) only[↓reduceIte,↓AA,Nat.reduceAdd,go_sem]
 rfl
def VA:Nat→List (List UInt8)→List UInt8
 |0,_=>Yo [2]
 |f+1,l=>if l.length=0 then Yo [2]else if l.length=1 then Yo (0::l.getD 0 [])else AGh (VA f (l.take (OY l.length))) (VA f (l.drop (OY l.length)))
theorem OZ:∀(f:Nat) (l:List (List UInt8)),(VA f l).length=32
 |0,_=>MI _
 |f+1,l=>by rw[VA];split;·exact MI _
            split<;>exact MI _
def Short (l:List (List UInt8)):Prop:=∀s∈l,s.length<2147000000
theorem Short.take {l:List (List UInt8)} (h:Short l) (n:Nat):Short (l.take n):=fun s hs=>h s (List.mem_of_mem_take hs)
theorem Short.drop {l:List (List UInt8)} (h:Short l) (n:Nat):Short (l.drop n):=fun s hs=>h s (List.mem_of_mem_drop hs)
theorem of0 {x:Nat} (hx:x<256) {g:Fl}:Cl 117 [.lst 68 g [.lst 5 .sh [.int .u8 (x:Int)]]] []=some (BB (Yo [UInt8.ofNat x]),[]):=by
 have e:[V.lst 5 .sh [.int .u8 (x:Int)]]=parts [(.sh,[UInt8.ofNat x])]:=by
  simp only[parts,part,List.map_cons,List.map_nil,bL,bytesOf]
  rw[UInt8.toNat_ofNat',Nat.mod_eq_of_lt (by omega)]
 rw[e,Yr _ (by simp) g (by simp[flat]) (by simp[flat])]
 simp[flat]
theorem ACZ {n:Nat} (h:2≤n):0<OY n∧OY n<n:=U9 n 62 1 (by omega) (by omega)
theorem AIP:∀(f:Nat) (l:List (List UInt8)) (g:Fl),l.length≤f→f<2000000000→Short l→Cl 95 [.lst 9 g (l.map V.str)] []=some (BB (VA f l),[]):=by
 intro f
 induction f with
 |zero=>
  intro l g hl _ _
  have:l=[]:=List.eq_nil_of_length_eq_zero (by omega)
  subst this
  rw[ABy,OW,VA]
  simp(disch:=first|assumption|omega|(with_reducible rfl)|(simp only[go_sem];done)|(simp only[go_sem];omega)|fail) only[↓reduceIte,↓AA,Nat.reduceAdd,go_sem,List.map_nil]
  refine(AB (of0 (x:=2) (by omega)) _).trans ?_
  simp(disch:=first|assumption|omega|(with_reducible rfl)|(simp only[go_sem];done)|(simp only[go_sem];omega)|fail) only[↓reduceIte,↓AA,Nat.reduceAdd,go_sem]
  rfl
 |succ f ih=>
  intro l g hl hf hs
  rw[ABy,OW,VA]
  by_cases h0:l.length=0
  ·simp(disch:=first|assumption|omega|(with_reducible rfl)|(simp only[go_sem];done)|(simp only[go_sem];omega)|fail) only[↓reduceIte,↓AA,Nat.reduceAdd,go_sem,h0]
   refine(AB (of0 (x:=2) (by omega)) _).trans ?_
   simp(disch:=first|assumption|omega|(with_reducible rfl)|(simp only[go_sem];done)|(simp only[go_sem];omega)|fail) only[↓reduceIte,↓AA,Nat.reduceAdd,go_sem]
   rfl
  by_cases h1:l.length=1
  ·have hg:l[0]?=some (l.getD 0 []):=by rw[List.getD_eq_getElem?_getD,List.getElem?_eq_getElem (by omega)];rfl
   have hm:(l.getD 0 []).length<2147000000:=hs _ (List.mem_of_getElem? hg)
   simp(disch:=first|assumption|omega|(with_reducible rfl)|(simp only[go_sem];done)|(simp only[go_sem];omega)|fail) only[↓reduceIte,↓AA,Nat.reduceAdd,go_sem,h0,h1,List.getElem?_map,hg,AE2 hm]
   rfl
  have hh:=ACZ (n:=l.length) (by omega)
  have hx:∀g,Cl 95 [.lst 9 g ((l.take (OY l.length)).map V.str)] []=_:=fun g=>ih _ g (by simp;omega) (by omega) (hs.take _)
  have hy:∀g,Cl 95 [.lst 9 g ((l.drop (OY l.length)).map V.str)] []=_:=fun g=>ih _ g (by simp;omega) (by omega) (hs.drop _)
  simp(disch:=first|assumption|omega|(with_reducible rfl)|(simp only[go_sem];done)|(simp only[go_sem];omega)|fail) only[↓reduceIte,↓AA,Nat.reduceAdd,go_sem,h0,h1,AE5 (n:=l.length) (by omega) (by omega),←List.map_take,←List.map_drop,hx,hy,AE6 (OZ _ _) (OZ _ _)]
def ACa (l:List (List UInt8)):List UInt8:=ACY l.length (VA l.length l)
theorem Qq (n:Nat) (t:List UInt8):(ACY n t).length=32:=MI _
theorem AE7 {g:Fl} {l:List (List UInt8)} (hl:l.length<1000000000) (hs:Short l):Cl 66 [.lst 9 g (l.map V.str)] []=some (BB (ACa l),[]):=by
 have h:=fun g=>AIP l.length l g (Nat.le_refl _) (by omega) hs
 rw[AHd,OW]
 simp(disch:=first|assumption|omega|(with_reducible rfl)|(simp only[go_sem];done)|(simp only[go_sem];omega)|fail) only[↓reduceIte,↓AA,Nat.reduceAdd,go_sem,h,AE3 (n:=l.length) hl (OZ _ _)]
 rfl
end
section
open Go AM
theorem AKr {h:List V} {y:V} {ys:List V} {ty:V→Bool} {xs:List V} (hy:Af h y=some ys) (hc:AU ys=true) (ht:ys.all ty=true) (hl:xs.length+ys.length≤2147483648) {e:TypeId} {hs:Bool}:
 GK e ty hs h (.lst e .own xs) y=some (.lst e .own (xs++nlB hs ys)):=by simp[GK,hy,hc,ht,C9,hl]
def z32:List UInt8:=List.replicate 32 0
theorem TP:∀a b:List UInt8,a.length=b.length→Jy (bytesOf a) (bytesOf b)=some (decide (a=b))
 |[],[],_=>rfl
 |x::a,y::b,h=>by
  have e:∀(z:UInt8) (l:List UInt8),bytesOf (z::l)= .int .u8 (z.toNat:Int)::bytesOf l:=fun _ _=>rfl
  rw[e,e]
  simp only[Jy,Iq,if_true,Option.bind_some]
  by_cases hxy:x=y
  ·subst hxy
   simp[TP a b (by simpa using h)]
  ·have:¬(x.toNat:Int)=(y.toNat:Int):=fun h=>hxy (UInt8.toNat_inj.1 (by omega))
   simp[this,hxy]
 |[],_::_,h=>by simp at h
 |_::_,[],h=>by simp at h
@[go_sem] theorem eqA {a b:List UInt8} (ha:a.length=32) (hb:b.length=32):WI (BJ 54) .eql (BB a) (BB b)=some (.bool (decide (a=b))):=by
  have h:Iq (BB a) (BB b)=some (decide (a=b)):=by simp only[BB,Iq,if_true,TP a b (by omega)]
  simp only[WI,MN,Bool.and_self,if_true,h,Option.map_some]
@[go_sem] theorem neA {a b:List UInt8} (ha:a.length=32) (hb:b.length=32):WI (BJ 54) .neq (BB a) (BB b)=some (.bool (!decide (a=b))):=by
  have h:Iq (BB a) (BB b)=some (decide (a=b)):=by simp only[BB,Iq,if_true,TP a b (by omega)]
  simp only[WI,MN,Bool.and_self,if_true,h,Option.map_some]
@[go_sem] theorem AKs (l:List (List UInt8)):Fj (l.map BB)=true:=DK I8 l
@[go_sem] theorem AKt (l:List (List UInt8)):(l.map BB).all (BJ 54)=true:=all_map MN l
theorem XC {h:List V} {id:Nat} {l x:List UInt8} (hh:h[id]?=some (Ar .own l)) (hx:x.length=32) (hl:l.length≤2000000000):Cl 47 [BK id,BB x] h=some (.tup [],h.set id (Ar .own (l++x))):=by
 have hid:=OE hh
 have h1:(h++[BB x])[id]?=some (Ar .own l):=AEU _ hh
 have ht:=fun(K:V×List V→Rv)=>MJ (h:=h++[BB x]) (id:=id) (f:= .own) (l:=l) h1 K
 rw[AHQ,BK]
 simp(disch:=first|assumption|omega|(with_reducible rfl)|(simp only[go_sem];done)|(simp only[go_sem];omega)|fail) only[↓reduceIte,↓AA,Nat.reduceAdd,go_sem]
 refine(ht _).trans ?_
 have hs:∀v w:V,(h++[BB x]).set id v=h.set id v++[BB x]:=fun v w=>AEW _ _ hid
 have hc:Af ((h++[BB x]).set id (Ar .sh l)) (.win h.length [] 0 32 5)=some (bytesOf x):=by
  rw[hs _ (V.bool true)]
  have:(h.set id (Ar .sh l)++[BB x])[h.length]?=some (BB x):=by
   have:=AB7 (h.set id (Ar .sh l)) (BB x)
   rwa [List.length_set]at this
  simp only[Af,rd]
  rw[this]
  simp[V.at,V.items,BB]
  rw[List.take_of_length_le (by rw[Ai];omega)]
 have ap:GK 5 (Ph .u8) false ((h++[BB x]).set id (Ar .sh l)) (bL .own l) (.win h.length [] 0 32 5)=some (bL .own (l++x)):=by
  rw[bL,AKr hc (Bf x) (by simp[bytesOf,Ph]) (by rw[Ai,Ai];omega)]
  rw[AGb,←E5];rfl
 refine(AB ap _).trans ?_
 have hb:((h++[BB x]).set id (Ar .sh l))[id]?=some (Ar .sh l):=JS _ h1
 refine(AB (AIE (i:=0) hb (by simp) rfl rfl 68) _).trans ?_
 rw[List.set_set,hs _ (.bool true)]
 show some (V.tup [],List.take h.length (h.set id _++[BB x]))=_
 rw[take_set];rfl
theorem VB (a:V):Cl 45 [] [a]=some (BK 1,[a,Ar .nil []]):=FU [a]
theorem Gn {a:V} {f:Fl} {l:List UInt8} {x:Int} (hf:OK f) (h0:0≤x) (h1:x<18446744073709551616) (hl:l.length≤2000000000):Cl 46 [BK 1,.int .u64 x] [a,Ar f l]=some (.tup [],[a,Ar .own (l++Aa x.toNat)]):=by
 have:=Cm (h:=[a,Ar f l]) (id:=1) (n:=x.toNat) rfl hf (by omega) (by omega)
 rw[show((x.toNat:Nat):Int)=x by omega]at this
 exact this
theorem XD {a b:V} {l x:List UInt8} (hx:x.length=32) (hl:l.length≤2000000000):Cl 47 [BK 1,BB x] [a,Ar .own l,b]=some (.tup [],[a,Ar .own (l++x),b]):=XC (h:=[a,Ar .own l,b]) (id:=1) rfl hx hl
theorem Qr {a:V} {f:Fl} {l:List UInt8}:Cl 50 [BK 1] [a,Ar f l]=some (.str l,[a,Ar f l]):=Ee (h:=[a,Ar f l]) (id:=1) rfl
@[go_sem] theorem Zu (n:Nat):V.norm (BK n)=BK n:=(rfl)
@[go_sem] theorem AIQ {n m:Nat} (h:n<m):V.under m (BK n)=true:=Qj h ..
theorem Gp:OK .own:=Or.inl rfl
theorem ACb:OK .nil:=Or.inr rfl
@[go_sem] theorem AKu (n:Nat):V.norm (Zk n)=Zk n:=(rfl)
@[go_sem] theorem AJY {n m:Nat} (h:n<m):V.under m (Zk n)=true:=Qj h ..
@[go_sem] theorem ANF (s:List UInt8) (e:Nat):(OG s e).pl=true:=(rfl)
section
variable {a b c:V} {s:List UInt8} {e:Nat}
end
@[go_sem] theorem AOL {s:List UInt8} (h:1≤s.length) (k:IntKind):slT (.str s) (some (.int k 1)) none=some (.str (s.drop 1)):=AIF h k
end
section
open Go AM
def VD:List (List UInt8):=[[109,97,120],[108,97,98,101,108],[115,115,115,112],[98,102,115],[100,101,103,114,101,101],[114,97,110,107],[119,97,108,107,115]]
def Oa (t:List UInt8):Bool:=VD.any fun s=>decide (t=s)
theorem AE8 (t:List UInt8) {ls:List (List UInt8)} (hl:ls.length<1000000) (f:Fl):∀(m i:Nat),i+m=ls.length→
 Lc (.lst 9 f (ls.map .str)) (.str t) (.int .i64 (ls.length:Int)) (.int .i64 (i:Int))=some (.int .i64 (Fq (fun s=>decide (t=s)) i (ls.drop i)),[]):=by
 intro m
 induction m with
 |zero=>
  intro i hi
  rw[List.drop_eq_nil_of_le (by omega),NR]
  simp(disch:=first|assumption|omega|(with_reducible rfl)|(simp only[go_sem];done)|(simp only[go_sem];omega)|fail) only[↓reduceIte,↓AA,Nat.reduceAdd,go_sem,Fq]
 |succ m ih=>
  intro i hi
  have h:i<ls.length:=by omega
  have:=ih (i+1) (by omega)
  have ha:(ls.map V.str)[i]?=some (.str ls[i]):=by simp[h]
  rw[List.drop_eq_getElem_cons h,Fq,NR]
  by_cases ho:t=ls[i]
  ·rw[if_pos (decide_eq_true ho)]
   simp(disch:=first|assumption|omega|(with_reducible rfl)|(simp only[go_sem];done)|(simp only[go_sem];omega)|fail) only[↓reduceIte,↓AA,Nat.reduceAdd,go_sem,ha]
  ·rw[if_neg (by simp[ho]),←this]
   simp(disch:=first|assumption|omega|(with_reducible rfl)|(simp only[go_sem];done)|(simp only[go_sem];omega)|fail) only[↓reduceIte,↓AA,Nat.reduceAdd,go_sem,ha]
theorem VE (t:List UInt8):Cl 62 [.str t] []=some (.bool (Oa t),[]):=by
 have h:=AE8 t (ls:=VD) (by decide) .sh VD.length 0 (by omega)
 simp only[c0,List.drop_zero]at h
 have h2:Cl 92 [.lst 9 .sh (VD.map .str),.str t] []=some (.bool (Oa t),[]):=by
  have ix:Cl 116 [.lst 9 .sh (VD.map .str),.str t] []=some (.int .i64 (Fq (fun s=>decide (t=s)) 0 VD),[]):=by
   rw[←h,AEE]
   simp(disch:=first|assumption|omega|(with_reducible rfl)|(simp only[go_sem];done)|(simp only[go_sem];omega)|fail) only[↓reduceIte,↓AA,Nat.reduceAdd,go_sem]
  rw[Oa,←TI _ VD 0,AHn]
  simp(disch:=first|assumption|omega|(with_reducible rfl)|(simp only[go_sem];done)|(simp only[go_sem];omega)|fail) only[↓reduceIte,↓AA,Nat.reduceAdd,go_sem,ix]
 simp only[VD,List.map_cons,List.map_nil]at h2
 rw[AHZ]
 simp(disch:=first|assumption|omega|(with_reducible rfl)|(simp only[go_sem];done)|(simp only[go_sem];omega)|fail) only[↓reduceIte,↓AA,Nat.reduceAdd,go_sem,h2]
structure Job where
 tag:List UInt8
 src:Int
 steps:Int
abbrev vJ (j:Job):V:= .agg 25 [.str j.tag,.int .i64 j.src,.int .i64 j.steps]
def VF (g:Grf) (j:Job):Bool:=decide (TM g=0∧Oa j.tag=true∧0≤j.src∧j.src<g.n∧1≤j.steps∧j.steps≤64)
theorem Zv {g:Grf} (hl:g.es.length<1000000) (j:Job):Cl 32 [vG .sh g,vJ j] []=some (.int .i64 (if VF g j=true then 0 else 70),[]):=by
 have hg:=Zt hl
 rw[AHH]
 repeat' first|rfl|refine AEu (fun _=> ?_) (fun _=> ?_)|refine AEv (fun _=> ?_) (fun _=> ?_)|simp(disch:=first|assumption|omega|(with_reducible rfl)|(simp only[go_sem];done)|(simp only[go_sem];omega)|fail) only[↓reduceIte,↓AA,Nat.reduceAdd,go_sem,hg,VE]
 all_goals (rw[VF];simp_all)
 all_goals omega
def firstX (j:Job) (v:Int):Vtx:=
 if Oa j.tag=true then⟨v,if j.tag=[109,97,120]then(37*v+11).tmod 64 else if j.tag=[108,97,98,101,108]then v else if j.tag=[115,115,115,112]∨j.tag=[98,102,115]then(if v=j.src then 0 else -1)else if j.tag=[114,97,110,107]then 65536 else if j.tag=[119,97,108,107,115]then 1 else 0,true,false,0⟩else⟨0,0,false,false,0⟩
theorem AKv (a:Int):AO .rem (.int .i64 a) (.int .i64 64)=some (.int .i64 (a.tmod 64)):=QX _ _ _ (by omega)
theorem ACc (j:Job) {v:Int} (h1:0≤v) (h2:v<1000):Cl 34 [vJ j,.int .i64 v] []=some (Ic (firstX j v),[]):=by
 rw[AHJ]
 repeat' first|rfl|refine AEu (fun _=> ?_) (fun _=> ?_)|refine AEv (fun _=> ?_) (fun _=> ?_)|simp(disch:=first|assumption|omega|(with_reducible rfl)|(simp only[go_sem];done)|(simp only[go_sem];omega)|fail) only[↓reduceIte,↓AA,Nat.reduceAdd,go_sem,VE,AKv]
 all_goals simp_all [firstX,Ic]
end
section
open Go AM
def mA (v:Nat):Nat:=v*2654435761%4294967296
def mB (a:Nat):Nat:=a ^^^ (a/32768)
def mC (b:Nat):Nat:=b*2246822519%4294967296
def mD (c:Nat):Nat:=c ^^^ (c/8192)
def mixN (v:Nat):Nat:=mD (mC (mB (mA v)))
theorem AKw (v:Nat):mA v<4294967296:=Nat.mod_lt _ (by omega)
theorem AKx (v:Nat):mC v<4294967296:=Nat.mod_lt _ (by omega)
theorem VG {a:Nat} (h:a<4294967296) (k:Nat):a/k<4294967296:=Nat.lt_of_le_of_lt (Nat.div_le_self a k) h
theorem AGi (a c:Nat):AO .mul (.int .u32 (a:Int)) (.int .u32 (c:Int))=some (.int .u32 ((a*c%4294967296:Nat):Int)):=by
 rw[Us,←Int.natCast_mul,Fp]
theorem AGj {a:Nat} (h:a<4294967296) (k:Nat) (hk:k≤32):AO .shr (.int .u32 (a:Int)) (.int .u64 (k:Int))=some (.int .u32 ((a/2^k:Nat):Int)):=by
 have e:(min (k:Int).toNat IntKind.u32.bits)=k:=by simp only[IntKind.bits,Int.toNat_natCast];omega
 have h2:=Nat.div_le_self a (2^k)
 have e2:((2:Int)^k)=((2^k:Nat):Int):=by simp
 rw[Ut _ _ _ _ (by omega),e,e2,Int.fdiv_eq_ediv_of_nonneg _ (Int.natCast_nonneg _),←Int.natCast_ediv]
@[go_sem] theorem m1 (a:Nat):AO .mul (.int .u32 (a:Int)) (.int .u32 2654435761)=some (.int .u32 (mA a:Int)):=AGi a 2654435761
@[go_sem] theorem m2 (a:Nat):AO .mul (.int .u32 (a:Int)) (.int .u32 2246822519)=some (.int .u32 (mC a:Int)):=AGi a 2246822519
theorem s15 {a:Nat} (h:a<4294967296):AO .shr (.int .u32 (a:Int)) (.int .u64 15)=some (.int .u32 ((a/32768:Nat):Int)):=AGj h 15 (by omega)
theorem s13 {a:Nat} (h:a<4294967296):AO .shr (.int .u32 (a:Int)) (.int .u64 13)=some (.int .u32 ((a/8192:Nat):Int)):=AGj h 13 (by omega)
theorem AIR (v:Nat):Cl 93 [.int .u32 (v:Int)] []=some (.int .u32 (mixN v:Int),[]):=by
 have a1:=AKw v
 have b1:=AKx (mB (mA v))
 have x1:AO .xor (.int .u32 (mA v:Int)) (.int .u32 ((mA v/32768:Nat):Int))=some (.int .u32 (mB (mA v):Int)):=u32_xor a1 (VG a1 _)
 have x2:AO .xor (.int .u32 (mC (mB (mA v)):Int)) (.int .u32 ((mC (mB (mA v))/8192:Nat):Int))=some (.int .u32 (mixN v:Int)):=u32_xor b1 (VG b1 _)
 rw[AHo]
 simp(disch:=first|assumption|omega|(with_reducible rfl)|(simp only[go_sem];done)|(simp only[go_sem];omega)|fail) only[↓reduceIte,↓AA,Nat.reduceAdd,go_sem,s15 a1,x1,s13 b1,x2]
theorem AE9 {a c:Nat} (h:a*c<18446744073709551616):AO .mul (.int .u64 (a:Int)) (.int .u64 (c:Int))=some (.int .u64 ((a*c:Nat):Int)):=by
 rw[Us,←Int.natCast_mul,wrap_u64 (by omega) (by omega)]
theorem k1 {v:Nat} (h:v<4294967296) (K:V→Rv):((AO .mul (.int .u64 (v:Int)) (.int .u64 2654435761)).bind fun t=>(AO .rem t (.int .u64 4294967296)).bind K)=K (.int .u64 (mA v:Int)):=
 (AB (AE9 (a:=v) (c:=2654435761) (by omega)) _).trans (AB (AH8 (a:=v*2654435761) (b:=4294967296) (by omega) .u64) _)
theorem k2 {v:Nat} (h:v<4294967296) (K:V→Rv):((AO .mul (.int .u64 (v:Int)) (.int .u64 2246822519)).bind fun t=>(AO .rem t (.int .u64 4294967296)).bind K)=K (.int .u64 (mC v:Int)):=
 (AB (AE9 (a:=v) (c:=2246822519) (by omega)) _).trans (AB (AH8 (a:=v*2246822519) (b:=4294967296) (by omega) .u64) _)
def ownN (v n:Nat):Nat:=mixN v%n
theorem ACd {v n:Nat} (hv:v<1000) (h1:1≤n) (h2:n≤64):Cl 65 [.int .i64 (v:Int),.int .i64 (n:Int)] []=some (.int .i64 (ownN v n:Int),[]):=by
 have hm:=AIR v
 have cv1:F9 .u32 (.int .i64 (v:Int))=some (.int .u32 (v:Int)):=by rw[F9,wrap_u32 (by omega) (by omega)]
 have cv2:F9 .u32 (.int .i64 (n:Int))=some (.int .u32 (n:Int)):=by rw[F9,wrap_u32 (by omega) (by omega)]
 have r:=AH8 (a:=mixN v) (b:=n) (by omega) .u32
 have hl:mixN v%n<n:=Nat.mod_lt _ (by omega)
 rw[ownN,AHc]
 simp(disch:=first|assumption|omega|(with_reducible rfl)|(simp only[go_sem];done)|(simp only[go_sem];omega)|fail) only[↓reduceIte,↓AA,Nat.reduceAdd,go_sem,cv1,cv2,hm,r]
def ofL (n N w:Nat):List Nat:=(List.range n).filter fun v=>decide (ownN v N=w)
theorem VH (n N w:Nat):ofL (n+1) N w=if ownN n N=w then ofL n N w++[n]else ofL n N w:=by
 simp only[ofL,List.range_succ,List.filter_append,List.filter_cons,List.filter_nil]
 by_cases h:ownN n N=w<;>simp[h]
theorem ACe {n N w v:Nat} (h:v∈ofL n N w):v<n:=by
 simp only[ofL,List.mem_filter,List.mem_range]at h;exact h.1
theorem MO (n N w:Nat):(ofL n N w).length≤n:=by
 have:=List.length_filter_le (fun v=>decide (ownN v N=w)) (List.range n)
 simpa [ofL]using this
attribute [irreducible] mixN ownN ofL
abbrev vNs (f:Fl) (l:List Nat):V:= .lst 3 f (l.map fun(v:Nat)=>V.int .i64 (v:Int))
@[go_sem] theorem AKy (l:List Nat):Fj (l.map fun(v:Nat)=>V.int .i64 (v:Int))=true:=DK (fun _=>rfl) l
@[go_sem] theorem AKz (l:List Nat):(l.map fun(v:Nat)=>V.int .i64 (v:Int)).all (Ph .i64)=true:=all_map (fun _=>rfl) l
theorem ACf (f:Fl) (l:List Nat) (v:Nat):vNs f (l++[v])= .lst 3 f ((l.map fun(v:Nat)=>V.int .i64 (v:Int))++[.int .i64 (v:Int)]):=by simp[vNs]
theorem AIS {v N w:Nat} (hv:v<1000) (h1:1≤N) (h2:N≤64):Cl 64 [.int .i64 (v:Int),.ref 0 [] 3,.ref 1 [] 3] [.int .i64 (N:Int),.int .i64 (w:Int)]=some (.bool (decide (ownN v N=w)),[.int .i64 (N:Int),.int .i64 (w:Int)]):=by
 have ho:=ACd hv h1 h2
 have e:decide ((ownN v N:Int)=(w:Int))=decide (ownN v N=w):=decide_eq_decide.2 (by omega)
 rw[AHb]
 simp(disch:=first|assumption|omega|(with_reducible rfl)|(simp only[go_sem];done)|(simp only[go_sem];omega)|fail) only[↓reduceIte,↓AA,Nat.reduceAdd,go_sem,ho,e]
theorem ANG {v N w:Nat} (hv:v<1000) (h1:1≤N) (h2:N≤64) (k:V→List V→Rv):CP P D9 W (.clo 64 [.ref 0 [] 3,.ref 1 [] 3]) [.int .i64 (v:Int)] [.int .i64 (N:Int),.int .i64 (w:Int)] k=k (.bool (decide (ownN v N=w))) [.int .i64 (N:Int),.int .i64 (w:Int)]:=
 Qm k (by kernel_rfl) (by kernel_rfl) (AIS hv h1 h2)
theorem AIT {n N w:Nat} (hn:n≤64) (h1:1≤N) (h2:N≤64):∀(m i:Nat) (f:Fl),i+m=n→(f= .own∨f= .nil)→
 NH (.clo 64 [.ref 0 [] 3,.ref 1 [] 3]) (vNs f (ofL i N w)) (.int .i64 (n:Int)) (.int .i64 (i:Int)) [.int .i64 (N:Int),.int .i64 (w:Int)]=some (.tup [vNs .sh (ofL n N w),.int .i64 0],[]):=by
 intro m
 induction m with
 |zero=>
  intro i f hi hf
  obtain rfl:i=n:=by omega
  rw[QN]
  rcases hf with rfl|rfl
  ·simp(disch:=first|assumption|omega|(with_reducible rfl)|(simp only[go_sem];done)|(simp only[go_sem];omega)|fail) only[↓reduceIte,↓AA,Nat.reduceAdd,go_sem]
  ·simp(disch:=first|assumption|omega|(with_reducible rfl)|(simp only[go_sem];done)|(simp only[go_sem];omega)|fail) only[↓reduceIte,↓AA,Nat.reduceAdd,go_sem]
 |succ m ih=>
  intro i f hi hf
  have hl:=MO i N w
  have hv:=ACf .own (ofL i N w) i
  have h:=ANG (v:=i) (N:=N) (w:=w) (by omega) h1 h2
  rw[QN]
  by_cases ho:ownN i N=w
  ·have:=ih (i+1) .own (by omega) (Or.inl rfl)
   rw[VH,if_pos ho]at this
   rcases hf with rfl|rfl
   ·simp(disch:=first|assumption|omega|(with_reducible rfl)|(simp only[go_sem];done)|(simp only[go_sem];omega)|fail) only[↓reduceIte,↓AA,Nat.reduceAdd,go_sem,h,decide_eq_true ho]
    rw[hv]at this;exact this
   ·simp(disch:=first|assumption|omega|(with_reducible rfl)|(simp only[go_sem];done)|(simp only[go_sem];omega)|fail) only[↓reduceIte,↓AA,Nat.reduceAdd,go_sem,h,decide_eq_true ho]
    rw[hv]at this;exact this
  ·have:=ih (i+1) f (by omega) hf
   rw[VH,if_neg ho]at this
   simp(disch:=first|assumption|omega|(with_reducible rfl)|(simp only[go_sem];done)|(simp only[go_sem];omega)|fail) only[↓reduceIte,↓AA,Nat.reduceAdd,go_sem,h,decide_eq_false ho]
   exact this
theorem AIU {n N w:Nat} (h0:1≤n) (hn:n≤64) (h1:1≤N) (h2:N≤64) (hw:w<N):Cl 33 [.int .i64 (n:Int),.int .i64 (N:Int),.int .i64 (w:Int)] []=some (.tup [vNs .sh (ofL n N w),.int .i64 0],[]):=by
 have h:=AIT (w:=w) hn h1 h2 n 0 .nil (by omega) (Or.inr rfl)
 have r:Cl 63 [.int .i64 (n:Int),.int .i64 (N:Int)] []=some (.bool true,[]):=by
  rw[AHa]
  simp(disch:=first|assumption|omega|(with_reducible rfl)|(simp only[go_sem];done)|(simp only[go_sem];omega)|fail) only[↓reduceIte,↓AA,Nat.reduceAdd,go_sem]
  rw[decide_eq_true (by omega)]
 have z:vNs .nil (ofL 0 N w)= .lst 3 .nil []:=by simp[ofL]
 rw[z]at h
 rw[←h,AHI]
 simp(disch:=first|assumption|omega|(with_reducible rfl)|(simp only[go_sem];done)|(simp only[go_sem];omega)|fail) only[↓reduceIte,↓AA,Nat.reduceAdd,go_sem,r]
 rfl
end
section
open Go AM
abbrev kE (e:E0):Int×Int:=(e.fr,e.to)
def r5 (g:Grf) (i:Nat):Int:=if(g.es.drop i).any (GL g.n)=true then 50 else if(g.es.map kE).Nodup then 0 else 51
end
section
open Go AM
def Qs (g:Grf) (j:Job) (w:Int):Bool:=VF g j&&decide (1≤w∧w≤64)
end
section
open Go AM
structure Msg where
 fr:Int
 to:Int
 val:Int
 deriving DecidableEq
def AV (m:Msg):V:= .agg 107 [.int .i64 m.fr,.int .i64 m.to,.int .i64 m.val]
end
section
open Go AM
@[go_sem] theorem AL1 (m:Msg):(AV m).pl=true:=(rfl)
@[go_sem] theorem FW (l:List Msg):Fj (l.map AV)=true:=DK (fun _=>rfl) l
@[go_sem] theorem VI (m:Msg):BJ 107 (AV m)=true:=Gj ..
@[go_sem] theorem Ob (l:List Msg):(l.map AV).all (BJ 107)=true:=all_map (fun _=>Gj ..) l
end
section
open Go AM
def KD (n:Int):Bool:=decide (1125899906842624<n)||decide (n< -1125899906842624)
theorem Gq (n:Int):Cl 121 [.int .i64 n] []=some (.bool (KD n),[]):=by
 rw[AEJ,KD]
 by_cases h:1125899906842624<n
 ·simp(disch:=first|assumption|omega|(with_reducible rfl)|(simp only[go_sem];done)|(simp only[go_sem];omega)|fail) only[↓reduceIte,↓AA,Nat.reduceAdd,go_sem]
  rw[decide_eq_true h];rfl
 ·simp(disch:=first|assumption|omega|(with_reducible rfl)|(simp only[go_sem];done)|(simp only[go_sem];omega)|fail) only[↓reduceIte,↓AA,Nat.reduceAdd,go_sem]
  rw[decide_eq_false h];rfl
def GN (x:Vtx):Bool:= !(decide (x.id<0)||decide (64≤x.id)||KD x.val||KD x.inn||(!x.has&&decide (x.inn≠0)))
theorem Zw (x:Vtx):Cl 96 [Ic x] []=some (.int .i64 (if GN x=true then 0 else 100),[]):=by
 by_cases h1:x.id<0
 ·rw[show(if GN x=true then(0:Int)else 100)=100 from if_neg (by simp[GN,h1])]
  rw[Iu]
  simp only[Ic]
  simp(disch:=first|assumption|omega|(with_reducible rfl)|(simp only[go_sem];done)|(simp only[go_sem];omega)|fail) only[↓reduceIte,↓AA,Nat.reduceAdd,go_sem]
 by_cases h2:64≤x.id
 ·rw[show(if GN x=true then(0:Int)else 100)=100 from if_neg (by simp[GN,h2])]
  rw[Iu]
  simp only[Ic]
  simp(disch:=first|assumption|omega|(with_reducible rfl)|(simp only[go_sem];done)|(simp only[go_sem];omega)|fail) only[↓reduceIte,↓AA,Nat.reduceAdd,go_sem]
 by_cases h3:KD x.val=true
 ·rw[show(if GN x=true then(0:Int)else 100)=100 from if_neg (by simp[GN,h3])]
  rw[Iu]
  simp only[Ic]
  simp(disch:=first|assumption|omega|(with_reducible rfl)|(simp only[go_sem];done)|(simp only[go_sem];omega)|fail) only[↓reduceIte,↓AA,Nat.reduceAdd,go_sem,Gq,h3]
 by_cases h4:KD x.inn=true
 ·rw[show(if GN x=true then(0:Int)else 100)=100 from if_neg (by simp[GN,h4])]
  rw[Iu]
  simp only[Ic]
  simp(disch:=first|assumption|omega|(with_reducible rfl)|(simp only[go_sem];done)|(simp only[go_sem];omega)|fail) only[↓reduceIte,↓AA,Nat.reduceAdd,go_sem,Gq,h3,h4]
 simp only[Bool.not_eq_true]at h3 h4
 cases h5:x.has
 ·by_cases h6:x.inn=0
  ·rw[show(if GN x=true then(0:Int)else 100)=0 from if_pos (by simp only[GN,h3,h4,h5,h6,decide_eq_false h1,decide_eq_false h2];rfl)]
   rw[Iu]
   simp only[Ic]
   simp(disch:=first|assumption|omega|(with_reducible rfl)|(simp only[go_sem];done)|(simp only[go_sem];omega)|fail) only[↓reduceIte,↓AA,Nat.reduceAdd,go_sem,Gq,h3,h4,h5]
  ·rw[show(if GN x=true then(0:Int)else 100)=100 from if_neg (by simp[GN,h5,h6])]
   rw[Iu]
   simp only[Ic]
   simp(disch:=first|assumption|omega|(with_reducible rfl)|(simp only[go_sem];done)|(simp only[go_sem];omega)|fail) only[↓reduceIte,↓AA,Nat.reduceAdd,go_sem,Gq,h3,h4,h5]
 ·rw[show(if GN x=true then(0:Int)else 100)=0 from if_pos (by simp[GN,h1,h2,h3,h4,h5])]
  rw[Iu]
  simp only[Ic]
  simp(disch:=first|assumption|omega|(with_reducible rfl)|(simp only[go_sem];done)|(simp only[go_sem];omega)|fail) only[↓reduceIte,↓AA,Nat.reduceAdd,go_sem,Gq,h3,h4,h5]
def LX (b:Bool):Nat:=if b=true then 1 else 0
theorem AIV (b:Bool):Cl 98 [.bool b] []=some (.int .u64 (LX b:Int),[]):=by
 rw[AHr]
 cases b<;>rfl
def vtxB (x:Vtx):List UInt8:=if GN x=true then Aa x.id.toNat++Aa (KC x.val)++Aa (LX x.act)++Aa (LX x.has)++Aa (KC x.inn)else[]
theorem VJ {a:V} {f:Fl} {l:List UInt8} {n:Int} (hf:OK f) (h1:I64 n) (hl:l.length≤2000000000):Cl 97 [BK 1,.int .i64 n] [a,Ar f l]=some (.tup [],[a,Ar .own (l++Aa (KC n))]):=Qh (h:=[a,Ar f l]) (id:=1) rfl hf h1.1 h1.2 (by omega)
theorem Yy (b:Bool):(LX b:Int)<18446744073709551616:=by cases b<;>decide
theorem ACg (x:Vtx):(vtxB x).length≤50:=by
 have a:=Ac 10 x.id.toNat;have b:=Ac 10 (KC x.val);have c:=Ac 10 (KC x.inn)
 have d:=Ac 10 (LX x.act);have e:=Ac 10 (LX x.has)
 simp only[vtxB];split
 ·simp only[List.length_append,Aa];omega
 ·simp
theorem AFA {x:Vtx} (hx:VOk x):Cl 67 [Ic x] []=some (.str (vtxB x),[]):=by
 obtain⟨x1,x2,x3⟩:=hx
 have hc:=Zw x
 by_cases h:GN x=true
 ·have h0:0≤x.id:=by simp only[GN,Bool.not_eq_true',Bool.or_eq_false_iff,decide_eq_false_iff_not]at h;omega
  have hlt:x.id<18446744073709551616:=by have:=x1.2;omega
  rw[if_pos h]at hc
  rw[vtxB,if_pos h,ABf]
  have a:=Ac 10 x.id.toNat;have b:=Ac 10 (KC x.val);have c:=Ac 10 (KC x.inn)
  have d:=Ac 10 (LX x.act);have e:=Ac 10 (LX x.has)
  generalize ha:Aa x.id.toNat=n1
  generalize hb:Aa (KC x.val)=n2
  generalize hd:Aa (LX x.act)=n3
  generalize he:Aa (LX x.has)=n4
  have s1:∀w:V,Cl 46 [BK 1,.int .u64 x.id] [w,Ar .nil []]=_:=fun w=>Gn (a:=w) (f:= .nil) (l:=[]) ACb h0 hlt (by simp)
  rw[ha,List.nil_append]at s1
  have t1:n1.length≤10:=ha▸a
  have s2:∀w:V,Cl 97 [BK 1,.int .i64 x.val] [w,Ar .own n1]=_:=fun w=>VJ (a:=w) Gp x2 (by omega)
  rw[hb]at s2
  have t2:n2.length≤10:=hb▸b
  have s3:∀w:V,Cl 46 [BK 1,.int .u64 (LX x.act:Int)] [w,Ar .own (n1++n2)]=_:=fun w=>Gn (a:=w) Gp (by omega) (Yy _) (by simp only[List.length_append];omega)
  rw[Int.toNat_natCast,hd]at s3
  have t3:n3.length≤10:=hd▸d
  have s4:∀w:V,Cl 46 [BK 1,.int .u64 (LX x.has:Int)] [w,Ar .own (n1++n2++n3)]=_:=fun w=>Gn (a:=w) Gp (by omega) (Yy _) (by simp only[List.length_append];omega)
  rw[Int.toNat_natCast,he]at s4
  have t4:n4.length≤10:=he▸e
  have s5:∀w:V,Cl 97 [BK 1,.int .i64 x.inn] [w,Ar .own (n1++n2++n3++n4)]=_:=fun w=>VJ (a:=w) Gp x3 (by simp only[List.length_append];omega)
  have hb1:∀b,Cl 98 [.bool b] []=_:=AIV
  simp only[List.append_assoc]at s3 s4 s5⊢
  simp only[Ic]at hc⊢
  simp(disch:=first|assumption|omega|(with_reducible rfl)|(simp only[go_sem];done)|(simp only[go_sem];omega)|fail) only[↓reduceIte,↓AA,Nat.reduceAdd,go_sem,hc,VB,s1,s2,s3,s4,s5,hb1,Qr]
 ·rw[if_neg h]at hc
  rw[vtxB,if_neg h,ABf]
  simp only[Ic]at hc⊢
  simp(disch:=first|assumption|omega|(with_reducible rfl)|(simp only[go_sem];done)|(simp only[go_sem];omega)|fail) only[↓reduceIte,↓AA,Nat.reduceAdd,go_sem,hc]
abbrev ACh (n:Nat):V:= .win 0 [] 0 n 9
abbrev Zx (d:List (List UInt8)):V:= .row 9 (d.map V.str)
theorem Zy (n:Nat) (f:Fl) (l:List Vtx):V.under n (.lst 81 f (l.map Ic))=true:=by
 have:=(V.PF (.agg 0 (l.map Ic)) (AE1 l)).under n
 cases f<;>first|rfl|exact this
theorem ACi {l:List Vtx} (hl:∀x∈l,VOk x) (hn:l.length≤1000000) (f:Fl):∀(n i:Nat) (d:List (List UInt8)),i+n=l.length→d.length=l.length→
 SC (ACh l.length) (.lst 81 f (l.map Ic)) (.int .i64 (l.length:Int)) (.int .i64 (i:Int)) [Zx d]=some (.lst 9 .sh ((d.take i++(l.drop i).map vtxB).map V.str),[]):=by
 intro n
 induction n with
 |zero=>
  intro i d hi hd
  have e1:l.drop i=[]:=List.drop_eq_nil_of_le (by omega)
  rw[e1,List.map_nil,List.append_nil,List.take_of_length_le (by omega),QO]
  have c:Af [Zx d] (ACh l.length)=some (d.map V.str):=by
   simp only[Af,rd,List.getElem?_cons_zero,Option.bind_some,V.at,V.items,List.drop_zero]
   simp only[V.items,Option.map_some,Option.bind_some]
   rw[←hd];exact congrArg some (List.take_of_length_le (by simp))
  have fin:AY 0 [Zx d] (ACh l.length)=some (.lst 9 .sh (d.map V.str),[]):=by
   have cl:AU (d.map V.str)=true:=by
    clear c hd;induction d with
    |nil=>rfl
    |cons x t ih=>simp only[List.map_cons,AU,ih];rfl
   have nl:AP (d.map V.str)=d.map V.str:=by
    clear c hd cl;induction d with
    |nil=>rfl
    |cons x t ih=>simp only[List.map_cons,AP,ih];rfl
   simp only[AY,V.unmut,c,cl,nl,if_true]
   rfl
  simp(disch:=first|assumption|omega|(with_reducible rfl)|(simp only[go_sem];done)|(simp only[go_sem];omega)|fail) only[↓reduceIte,↓AA,Nat.reduceAdd,go_sem,fin]
 |succ n ih=>
  intro i d hi hd
  have h:i<l.length:=by omega
  have hx:=hl _ (List.getElem_mem h)
  have hr:=AFA hx
  have:=ih (i+1) (d.set i (vtxB l[i])) (by omega) (by simp[hd])
  have e:(d.set i (vtxB l[i])).take (i+1)++(l.drop (i+1)).map vtxB=d.take i++(l.drop i).map vtxB:=by
   rw[List.drop_eq_getElem_cons h,List.map_cons,List.take_add_one,List.take_set_of_le (by omega),List.getElem?_set_self (by omega)]
   simp
  rw[e]at this
  rw[←this,QO]
  have ix:Di 9 (V.weak (ACh l.length)) (.int .i64 (i:Int))=some (.ref 0 [i] 9):=by
   simp only[V.weak,Di,inside]
   simp;omega
  have hu:=Zy 1 f l
  rw[Zx,Zx,List.map_set]
  simp(disch:=first|assumption|omega|(with_reducible rfl)|(simp only[go_sem];done)|(simp only[go_sem];omega)|fail) only[↓reduceIte,↓AA,Nat.reduceAdd,go_sem,AKm h,hr,ix,hu]
theorem VK {l:List Vtx} (hl:∀x∈l,VOk x) (hn:l.length≤1000000) (f:Fl):Cl 36 [.lst 81 f (l.map Ic)] []=some (.lst 9 .sh ((l.map vtxB).map V.str),[]):=by
 have h:=ACi hl hn f l.length 0 (List.replicate l.length []) (by omega) (by simp)
 rw[List.take_zero,List.nil_append,List.drop_zero]at h
 simp only[c0]at h
 have mk:mkL 9 (.str []) (.int .i64 (l.length:Int)) (.int .i64 (l.length:Int))=some (.lst 9 .own (List.replicate l.length (.str []))):=by
  simp only[mkL]
  rw[if_pos ⟨by omega,by omega,by omega⟩];rfl
 have tb:Dh [] (.lst 9 .own (List.replicate l.length (.str [])))=some (ACh l.length,[Zx (List.replicate l.length [])]):=by
  simp[Dh]
 rw[←h,AHL]
 simp(disch:=first|assumption|omega|(with_reducible rfl)|(simp only[go_sem];done)|(simp only[go_sem];omega)|fail) only[↓reduceIte,↓AA,Nat.reduceAdd,go_sem,mk,tb]
theorem AIW (l:List Vtx):Short (l.map vtxB):=by
 intro s hs
 obtain⟨x,_,rfl⟩:=List.mem_map.1 hs
 have:=ACg x;omega
def vrootB (l:List Vtx):List UInt8:=ACa (l.map vtxB)
theorem ACj {l:List Vtx} (hl:∀x∈l,VOk x) (hn:l.length≤1000000) (f:Fl):Cl 35 [.lst 81 f (l.map Ic)] []=some (BB (vrootB l),[]):=by
 have h:=VK hl hn
 rw[AHK,OW]
 simp(disch:=first|assumption|omega|(with_reducible rfl)|(simp only[go_sem];done)|(simp only[go_sem];omega)|fail) only[↓reduceIte,↓AA,Nat.reduceAdd,go_sem,h,AE7 (l:=l.map vtxB) (by simp;omega) (AIW l)]
 rfl
end
section
open Go AM
theorem Oc {f:FuncId} {id:Nat} {p:List Nat} {t:TypeId} {vs vs' h:List V} {v r:V} (he:D9.ext f=false) (hp:D9.pure f=true) (hh:h[id]?=some v) (haw:Cc id (h.set id void)=true)
 (hv:Cc id vs=true) (hrf:AL (h.set id void) vs=vs') (hr:r.away id=true) (e:Cl f vs' []=some (r,[])) (k:V→List V→Rv) (hs:(D9.seq f).1=0:=by kernel_rfl):
 DT P D9 W (some (.ref id p t)) (.clo f []) vs h k=k r h:=by
 have hlt:=OE hh
 simp only[DT,hh,haw,hv]
 rw[if_pos (show(V.away id (.clo f [])&&true&&true)=true from rfl),MB _ he hp hs,List.append_nil,hrf]
 refine(AB e _).trans ?_
 rw[if_pos (by rw[hr,haw,List.length_set];simp only[Bool.true_and];exact Nat.ble_eq_true_of_le hlt),List.set_set]
 congr 1
 exact(List.ext_getElem? fun i=>by
  by_cases hi:i=id
  ·subst hi;rw[List.getElem?_set_self hlt,hh]
  ·rw[List.getElem?_set_ne (Ne.symm hi)])
theorem Oe {h:List V} {id i:Nat} {u e t:TypeId} {f:Fl} {fs xs:List V} (hh:h[id]?=some (.agg u fs)) (hf:fs[i]?=some (.lst e f xs)):BR h t (.ref id [i] t)=some (.lst e f xs,h.set id (.agg u (fs.set i (.lst e f.wk xs)))):=by
 simp only[BR,if_true,rd,wr,hh,Option.bind_some,V.at,V.upd,hf,Zq,Option.map_some]
@[go_sem] theorem ANH (t u:TypeId) (xs ys:List V):J3 true [.lst t .own xs,.lst u .own ys]=true:=(rfl)
@[go_sem] theorem ANI (t u:TypeId) (xs ys:List V):J3 true [.lst t .nil xs,.lst u .own ys]=true:=(rfl)
structure Bk where
 step:Int
 gone:List Bool
 roots:List (List UInt8)
 known:List (List (List UInt8))
 sent:List Msg
 deriving DecidableEq
abbrev Zz:TypeId:=32
def sS (l:List (List UInt8)):V:= .lst 9 .sh (l.map V.str)
abbrev GR (f0 f1 f2 f3:Fl) (b:Bk):V:= .agg Zz [.int .i64 b.step,.lst 4 f0 (b.gone.map V.bool),.lst 55 f1 (b.roots.map BB),.lst 58 f2 (b.known.map sS),.lst 108 f3 (b.sent.map AV)]
abbrev vB (b:Bk):V:=GR .sh .sh .sh .sh b
def zB:Bk:=⟨0,[],[],[],[]⟩
@[go_sem] theorem AL2 (l:List (List UInt8)):(sS l).weak=sS l:=(rfl)
@[go_sem] theorem AGk (l:List (List UInt8)):(sS l).pl=true:=JX l
@[go_sem] theorem AIX (l:List (List (List UInt8))):Fj (l.map sS)=true:=DK AGk l
@[go_sem] theorem Qu (l:List Bool):Fj (l.map V.bool)=true:=DK (fun _=>rfl) l
@[go_sem] theorem AIY (l:List (List UInt8)):Pq 9 (sS l)=true:=(rfl)
@[go_sem] theorem ANJ (l:List (List (List UInt8))):(l.map sS).all (Pq 9)=true:=all_map AIY l
@[go_sem] theorem Z4 (l:List Bool):(l.map V.bool).all AM.tyB=true:=all_map (fun _=>rfl) l
@[go_sem] theorem IA (l:List (List UInt8)):Fj (l.map BB)=true:=DK I8 l
def FP (g:Grf) (j:Job) (N w:Nat):List Vtx:=(ofL g.n.toNat N w).map fun(v:Nat)=>firstX j (v:Int)
def Z5 (g:Grf) (j:Job) (N:Nat):Bk:=⟨0,List.replicate N false,(List.range N).map fun w=>vrootB (FP g j N w),(List.range N).map fun w=>(FP g j N w).map vtxB,[]⟩
theorem Z7 (j:Job) {v:Nat} (hv:v<64):VOk (firstX j (v:Int)):=by
 have: -9223372036854775808≤(37*(v:Int)+11).tmod 64∧(37*(v:Int)+11).tmod 64<9223372036854775808:=by
  rw[Int.tmod_eq_emod_of_nonneg (by omega)];omega
 simp only[VOk,firstX,I64]
 repeat' split
 all_goals (simp only[];omega)
theorem AFB {g:Grf} (hg:g.n≤64) (j:Job) (N w:Nat):∀x∈FP g j N w,VOk x:=by
 intro x hx
 obtain⟨v,hv,rfl⟩:=List.mem_map.1 hx
 have:=ACe hv
 exact Z7 j (by omega)
theorem ACk (g:Grf) (j:Job) (N w:Nat):(FP g j N w).length≤g.n.toNat:=by
 rw[FP,List.length_map];exact MO _ _ _
theorem Z8 (l:List Vtx):(vrootB l).length=32:=Qq _ _
attribute [local irreducible] vrootB vtxB firstX
def Gs (g:Grf) (j:Job) (N w:Nat):Bk:=⟨0,List.replicate N false,(List.range w).map fun w=>vrootB (FP g j N w),(List.range w).map fun w=>(FP g j N w).map vtxB,[]⟩
theorem VL (h:List V) (f:Fl) (l:List Vtx) (hf:f= .sh∨f= .nil):AL h [.lst 81 f (l.map Ic)]=[.lst 81 .sh (l.map Ic)]:=by
 rcases hf with rfl|rfl<;>rfl
theorem ACl {g:Grf} (hg:g.n≤64) (h1:1≤g.n) {j:Job} {N w:Nat} (hN:N≤64) (hw:w<N) {f f1 f2:Fl} (hf:f= .own∨f= .nil) (hf1:f1= .own∨f1= .nil) (hf2:f2= .own∨f2= .nil) (a z:V) (ha:a.away 3=true) (hz:z.away 3=true) {L:List Nat} (i m0:Nat) (hL:L.length=i):
 ND (.int .i64 (N:Int)) (.ref 0 [] 24) (.ref 1 [] 26) (.ref 2 [] 33) (.ref 3 [] 33) (.lst 81 f ((FP g j N w).map Ic)) (.int .i64 (N:Int)) (.int .i64 (w:Int)) (vNs .sh L) (.int .i64 (i:Int)) (.int .i64 (i:Int)) m0 [a,vJ j,z,GR .sh f1 f2 .nil (Gs g j N w)]=
  J4 (.int .i64 (N:Int)) (.ref 0 [] 24) (.ref 1 [] 26) (.ref 2 [] 33) (.ref 3 [] 33) (.int .i64 (N:Int)) (.int .i64 ((w+1:Nat):Int)) [a,vJ j,z,GR .sh .own .own .nil (Gs g j N (w+1))]:=by
 have hl:=ACk g j N w
 have ok:=AFB hg j N w
 have hR:=ACj ok (by omega) .sh
 have hW:=VK ok (by omega) .sh
 have e1:(Gs g j N (w+1)).roots=(Gs g j N w).roots++[vrootB (FP g j N w)]:=by simp[Gs,List.range_succ]
 have e2:(Gs g j N (w+1)).known=(Gs g j N w).known++[(FP g j N w).map vtxB]:=by simp[Gs,List.range_succ]
 have e3:(Gs g j N (w+1)).gone=(Gs g j N w).gone:=rfl
 have e4:(Gs g j N (w+1)).step=(Gs g j N w).step:=rfl
 have e5:(Gs g j N (w+1)).sent=(Gs g j N w).sent:=rfl
 have l1:(Gs g j N w).roots.length=w:=by simp[Gs]
 have l2:(Gs g j N w).known.length=w:=by simp[Gs]
 have l3:=Z8 (FP g j N w)
 rw[show GR .sh .own .own .nil (Gs g j N (w+1))= .agg Zz [.int .i64 (Gs g j N w).step,.lst 4 .sh ((Gs g j N w).gone.map V.bool),.lst 55 .own (((Gs g j N w).roots++[vrootB (FP g j N w)]).map BB),.lst 58 .own (((Gs g j N w).known++[(FP g j N w).map vtxB]).map sS),.lst 108 .nil ((Gs g j N w).sent.map AV)]from by rw[←e1,←e2,←e3,←e4,←e5]]
 generalize Gs g j N w=b at*
 generalize hrt:vrootB (FP g j N w)=rt at*
 generalize hkn:(FP g j N w).map vtxB=kn at*
 generalize FP g j N w=xs at*
 have hfw:f.wk= .sh∨f.wk= .nil:=by rcases hf with rfl|rfl<;>simp[Fl.wk]
 have aw:∀v:V,Cc 3 ([a,vJ j,z,v].set 3 void)=true:=by
  intro v
  simp only[List.set_cons_succ,List.set_cons_zero,Cc,ha,hz];rfl
 have avx:∀f:Fl,f= .sh∨f= .nil→Cc 3 [.lst 81 f (xs.map Ic)]=true:=by rintro f (rfl|rfl)<;>rfl
 have c1:∀(v:V) (k:V→List V→Rv),DT P D9 W (some (.ref 3 [] 33)) (.clo 35 []) [.lst 81 f.wk (xs.map Ic)] [a,vJ j,z,v] k=k (BB rt) [a,vJ j,z,v]:=
  fun v k=>Oc (by kernel_rfl) (by kernel_rfl) (v:=v) rfl (aw v) (avx _ hfw) (VL _ _ _ hfw) ((V.PF _ (I8 _)).away 3) hR k
 have c2:∀(v:V) (k:V→List V→Rv),DT P D9 W (some (.ref 3 [] 33)) (.clo 36 []) [.lst 81 f.wk (xs.map Ic)] [a,vJ j,z,v] k=k (sS kn) [a,vJ j,z,v]:=
  fun v k=>Oc (by kernel_rfl) (by kernel_rfl) (v:=v) rfl (aw v) (avx _ hfw) (VL _ _ _ hfw) ((V.PF _ (AGk _)).away 3) hW k
 have t1:BR [a,vJ j,z,GR .sh f1 f2 .nil b] 29 (.ref 3 [2] 29)=some (.lst 55 f1 (b.roots.map BB),[a,vJ j,z,GR .sh f1.wk f2 .nil b]):=Oe (h:=[a,vJ j,z,GR .sh f1 f2 .nil b]) (id:=3) rfl rfl
 have t2:BR [a,vJ j,z,GR .sh f1.wk f2 .nil b] 30 (.ref 3 [3] 30)=some (.lst 58 f2 (b.known.map sS),[a,vJ j,z,GR .sh f1.wk f2.wk .nil b]):=Oe (h:=[a,vJ j,z,GR .sh f1.wk f2 .nil b]) (id:=3) rfl rfl
 rw[QF]
 simp only[GR]at t1 t2
 have sb2:IW (.ref 3 [] 33) (.ref 3 [2] 29)=true:=rfl
 have sb3:IW (.ref 3 [] 33) (.ref 3 [3] 30)=true:=rfl
 have hm:∀x:List UInt8,(b.roots++[x]).map BB=b.roots.map BB++[BB x]:=by simp
 have hm2:∀x,(b.known++[x]).map sS=b.known.map sS++[sS x]:=by simp
 rw[hm,hm2]
 rcases hf1 with rfl|rfl<;>rcases hf2 with rfl|rfl
 all_goals simp only[ACO,ACP]at t1 t2
 all_goals simp(disch:=first|assumption|omega|(with_reducible rfl)|(simp only[go_sem];done)|(simp only[go_sem];omega)|fail) only[↓reduceIte,↓AA,Nat.reduceAdd,go_sem,c1,c2,t1,t2,sb2,sb3]
theorem AFC {g:Grf} (hg:g.n≤64) (h1:1≤g.n) {j:Job} {N w:Nat} (hN:N≤64) (hw:w<N) {f1 f2:Fl} (hf1:f1= .own∨f1= .nil) (hf2:f2= .own∨f2= .nil) (a z:V) (ha:a.away 3=true) (hz:z.away 3=true) (m0:Nat):∀(n i:Nat) (f:Fl),(f= .own∨f= .nil)→i+n=(ofL g.n.toNat N w).length→
 ND (.int .i64 (N:Int)) (.ref 0 [] 24) (.ref 1 [] 26) (.ref 2 [] 33) (.ref 3 [] 33) (.lst 81 f (((ofL g.n.toNat N w).take i).map fun(v:Nat)=>Ic (firstX j (v:Int)))) (.int .i64 (N:Int)) (.int .i64 (w:Int)) (vNs .sh (ofL g.n.toNat N w)) (.int .i64 ((ofL g.n.toNat N w).length:Int)) (.int .i64 (i:Int)) m0 [a,vJ j,z,GR .sh f1 f2 .nil (Gs g j N w)]=
  J4 (.int .i64 (N:Int)) (.ref 0 [] 24) (.ref 1 [] 26) (.ref 2 [] 33) (.ref 3 [] 33) (.int .i64 (N:Int)) (.int .i64 ((w+1:Nat):Int)) [a,vJ j,z,GR .sh .own .own .nil (Gs g j N (w+1))]:=by
 intro n
 induction n with
 |zero=>
  intro i f hf hi
  have h:=ACl hg h1 hN hw hf hf1 hf2 a z ha hz (L:=ofL g.n.toNat N w) i m0 (j:=j) (by omega)
  rw[show(ofL g.n.toNat N w).length=i by omega,List.take_of_length_le (by omega)]
  rw[FP,List.map_map]at h
  exact h
 |succ n ih=>
  intro i f hf hi
  have hlen:=MO g.n.toNat N w
  have hl:i<(ofL g.n.toNat N w).length:=by omega
  have h2:=ACe (List.getElem_mem hl)
  have hx:=ACc j (v:=((ofL g.n.toNat N w)[i]:Nat)) (by omega) (by omega)
  have hc:∀(k:V×List V→Rv),((Cl 34 [vJ j,.int .i64 ((ofL g.n.toNat N w)[i]:Int)] []).bind k)=k (Ic (firstX j ((ofL g.n.toNat N w)[i]:Int)),[]):=fun k=>AB hx k
  have ih':=ih (i+1) .own (Or.inl rfl) (by omega)
  have ix:Di 3 (vNs .sh (ofL g.n.toNat N w)) (.int .i64 (i:Int))=some (.rop 3 (.int .i64 ((ofL g.n.toNat N w)[i]:Int))):=by
   rw[vNs,Ql,List.getElem?_map,List.getElem?_eq_getElem hl];rfl
  rw[←List.take_append_getElem hl,List.map_append]at ih'
  generalize hX:(ofL g.n.toNat N w)[i]=x at*
  generalize hF:firstX j (x:Int)=y at*
  generalize GR .sh f1 f2 .nil (Gs g j N w)=b at*
  generalize GR .sh .own .own .nil (Gs g j N (w+1))=b2 at*
  generalize ofL g.n.toNat N w=L at*
  simp only[List.map_cons,List.map_nil,hF]at ih'
  rw[←ih',QF]
  rcases hf with rfl|rfl
  all_goals simp(disch:=first|assumption|omega|(with_reducible rfl)|(simp only[go_sem];done)|(simp only[go_sem];omega)|fail) only[↓reduceIte,↓AA,Nat.reduceAdd,go_sem,hc,ix,hF]
theorem AFD (g:Grf) (j:Job) (N:Nat):Z5 g j N=Gs g j N N:=rfl
theorem AFE {g:Grf} (hg:g.n≤64) (h1:1≤g.n) {j:Job} {N:Nat} (hN:N≤64) (hN1:1≤N):∀(n w:Nat) (f1 f2:Fl),(f1= .own∨f1= .nil)→(f2= .own∨f2= .nil)→w+n=N→
 J4 (.int .i64 (N:Int)) (.ref 0 [] 24) (.ref 1 [] 26) (.ref 2 [] 33) (.ref 3 [] 33) (.int .i64 (N:Int)) (.int .i64 (w:Int)) [vG .sh g,vJ j,GR .nil .nil .nil .nil zB,GR .sh f1 f2 .nil (Gs g j N w)]=some (.tup [vB (Z5 g j N),.int .i64 0],[]):=by
 intro n
 induction n with
 |zero=>
  intro w f1 f2 hf1 hf2 hi
  obtain rfl:w=N:=by omega
  rw[AFD,QG]
  generalize Gs g j w w=b at*
  rcases hf1 with rfl|rfl<;>rcases hf2 with rfl|rfl
  all_goals simp(disch:=first|assumption|omega|(with_reducible rfl)|(simp only[go_sem];done)|(simp only[go_sem];omega)|fail) only[↓reduceIte,↓AA,Nat.reduceAdd,go_sem]
  all_goals rfl
 |succ n ih=>
  intro w f1 f2 hf1 hf2 hi
  have hw:w<N:=by omega
  have hL:=AFC hg h1 (j:=j) hN hw hf1 hf2 (vG .sh g) (GR .nil .nil .nil .nil zB) rfl rfl 4 (ofL g.n.toNat N w).length 0 .nil (Or.inr rfl) (by omega)
  have hof:=AIU (n:=g.n.toNat) (N:=N) (w:=w) (by omega) (by omega) (by omega) hN hw
  have hlen:=MO g.n.toNat N w
  rw[show(g.n.toNat:Int)=g.n by omega]at hof
  rw[←ih (w+1) .own .own (Or.inl rfl) (Or.inl rfl) (by omega),←hL,QG]
  clear ih hL
  generalize GR .sh f1 f2 .nil (Gs g j N w)=b at*
  generalize GR .sh .own .own .nil (Gs g j N (w+1))=b2 at*
  generalize ofL g.n.toNat N w=L at*
  simp(disch:=first|assumption|omega|(with_reducible rfl)|(simp only[go_sem];done)|(simp only[go_sem];omega)|fail) only[↓reduceIte,↓AA,Nat.reduceAdd,go_sem,hof]
  rfl
theorem AFF {g:Grf} {j:Job} (hj:VF g j=true):1≤g.n∧g.n≤64:=by
 have hg:TM g=0:=(of_decide_eq_true hj).1
 rw[TM]at hg
 by_cases h:1≤g.n∧g.n≤64∧g.es.length≤512∧g.es.any (GL g.n)=false
 ·exact⟨h.1,h.2.1⟩
 ·rw[if_neg h]at hg;omega
theorem AIZ {g:Grf} (hl:g.es.length<1000000) (j:Job) (w:Int):Cl 10 [vG .sh g,vJ j,.int .i64 w] []=some (if Qs g j w=true then .tup [vB (Z5 g j w.toNat),.int .i64 0]else .tup [vB zB,.int .i64 170],[]):=by
 have hc:=Zv hl j
 by_cases hb:Qs g j w=true
 ·simp only[Qs,Bool.and_eq_true,decide_eq_true_eq]at hb
  obtain⟨hj,h1,h2⟩:=hb
  have hg':=AFF hj
  obtain⟨N,rfl⟩:=Int.eq_ofNat_of_zero_le (show 0≤w by omega)
  have h0:=AFE hg'.2 hg'.1 (j:=j) (N:=N) (by omega) (by omega) N 0 .nil .nil (Or.inr rfl) (Or.inr rfl) (by omega)
  rw[if_pos (by simp only[Qs,hj,Bool.true_and,decide_eq_true_eq];omega)]
  rw[if_pos hj]at hc
  rw[ABE]
  simp only[Int.toNat_natCast]
  rw[←h0]
  generalize Z5 g j N=b at*
  have hu:Gs g j N 0=⟨0,List.replicate N false,[],[],[]⟩:=rfl
  rw[hu]
  have mk:mkL 4 (.bool false) (.int .i64 (N:Int)) (.int .i64 (N:Int))=some (.lst 4 .own ((List.replicate N false).map V.bool)):=by
   rw[List.map_replicate]
   simp only[mkL]
   rw[if_pos (by omega),Int.toNat_natCast]
  simp(disch:=first|assumption|omega|(with_reducible rfl)|(simp only[go_sem];done)|(simp only[go_sem];omega)|fail) only[↓reduceIte,↓AA,Nat.reduceAdd,go_sem,hc,mk]
  rfl
 ·rw[if_neg hb,ABE]
  simp only[Qs]at hb
  generalize VF g j=q at*
  repeat' first|rfl|refine AEu (fun _=> ?_) (fun _=> ?_)|refine AEv (fun _=> ?_) (fun _=> ?_)|simp(disch:=first|assumption|omega|(with_reducible rfl)|(simp only[go_sem];done)|(simp only[go_sem];omega)|fail) only[↓reduceIte,↓AA,Nat.reduceAdd,go_sem,hc]
  all_goals simp_all
  all_goals omega
end
section
open Go AM
theorem AFG {n:Int} (h:I64 n):Cl 103 [.int .i64 n] []=some (.str (Aa (KC n)),[]):=by
 obtain⟨ha,hb⟩:=h
 by_cases h0:0≤n
 ·obtain⟨m,rfl⟩:=Int.eq_ofNat_of_zero_le h0
  have e:KC (m:Int)=2*m:=by rw[KC,if_pos h0];omega
  have c:F9 .u64 (.int .i64 (m:Int))=some (.int .u64 (m:Int)):=cvI_u64 (by omega) (by omega)
  have ml:AO .mul (.int .u64 2) (.int .u64 (m:Int))=some (.int .u64 ((2*m:Nat):Int)):=AE9 (a:=2) (c:=m) (by omega)
  have r:=DZ (n:=2*m) (by omega)
  rw[e,Xz]
  generalize Aa (2*m)=x at*
  generalize 2*m=y at*
  simp(disch:=first|assumption|omega|(with_reducible rfl)|(simp only[go_sem];done)|(simp only[go_sem];omega)|fail) only[↓reduceIte,↓AA,Nat.reduceAdd,go_sem,c,ml,r]
 ·obtain⟨m,hm⟩:=Int.eq_ofNat_of_zero_le (show 0≤ -1-n by omega)
  have e:KC n=2*m+1:=by rw[KC,if_neg h0];omega
  have sb:AO .sub (.int .i64 (-1)) (.int .i64 n)=some (.int .i64 (m:Int)):=by rw[OB,wrap_i64 (by omega) (by omega),hm]
  have c:F9 .u64 (.int .i64 (m:Int))=some (.int .u64 (m:Int)):=cvI_u64 (by omega) (by omega)
  have ml:AO .mul (.int .u64 2) (.int .u64 (m:Int))=some (.int .u64 ((2*m:Nat):Int)):=AE9 (a:=2) (c:=m) (by omega)
  have ad:AO .add (.int .u64 ((2*m:Nat):Int)) (.int .u64 1)=some (.int .u64 ((2*m+1:Nat):Int)):=by rw[Dp,wrap_u64 (by omega) (by omega)];rfl
  have r:=DZ (n:=2*m+1) (by omega)
  rw[e,Xz]
  generalize Aa (2*m+1)=x at*
  generalize 2*m+1=z at*
  generalize 2*m=y at*
  simp(disch:=first|assumption|omega|(with_reducible rfl)|(simp only[go_sem];done)|(simp only[go_sem];omega)|fail) only[↓reduceIte,↓AA,Nat.reduceAdd,go_sem,sb,c,ml,ad,r]
end
section
open Go AM
instance:Inhabited Msg:=⟨⟨0,0,0⟩⟩
def rowM (d:Array Msg):V:= .row 108 (d.toList.map AV)
def winM (id n:Nat):V:= .win id [] 0 n 108
abbrev cm:V:= .clo 128 []
def Yz (a b:Int):Int:=if a<b then -1 else if b<a then 1 else 0
def or3 (a b c:Int):Int:=if a≠0 then a else if b≠0 then b else c
def AK0 (x y:Msg):Int:=or3 (Yz x.to y.to) (Yz x.fr y.fr) (Yz x.val y.val)
def I9 (x y:Msg):Bool:=decide (AK0 x y<0)
theorem AIa {B:Type} {k:IntKind} {a b:Int} (h:b<a) (K:V→Option B):(AO .gtr (.int k a) (.int k b)).bind K=K (.bool true):=by
 rw[b_gtr,Option.bind_some,decide_eq_true h]
theorem AIb {B:Type} {k:IntKind} {a b:Int} (h:¬b<a) (K:V→Option B):(AO .gtr (.int k a) (.int k b)).bind K=K (.bool false):=by
 rw[b_gtr,Option.bind_some,decide_eq_false h]
theorem AK1 {B:Type} (b:Bool) (K:V→Option B):(un .not (.bool b)).bind K=K (.bool (!b)):=rfl
theorem Y0 (m:Msg):BQ P 108 (AV m)=true:=by simp[BQ,Yj,AV]
theorem AK2 (n:Nat) (m:Msg):(AV m).under n=true:=rfl
theorem fM {B:Type} {id:Nat} (j:Nat) {u:TypeId} {p:List Nat} (hj:[3,3,2][j]?=some u) (hu:P.cellsOf u≠0) (K:V→Option B):(BA P 108 j (.ref id p 108)).bind K=K (.ref id (p++[j]) u):=
 AB (OC (P:=P) Yj hj hu id p) K
theorem AIc {B:Type} {h:List V} {id:Nat} {m:Msg} {x:Int} (j:Nat) (u:TypeId) (hj:[3,3,2][j]?=some u) (hu:P.cellsOf u≠0) (hh:h[id]?=some (AV m)) (hx:[V.int .i64 m.fr,V.int .i64 m.to,V.int .i64 m.val][j]?=some (.int .i64 x)) (K:V→Option B):
 (BA P 108 j (.ref id [] 108)).bind (fun t=>(Ae h u t).bind K)=K (.int .i64 x):=by
 refine(fM j hj hu _).trans ?_
 exact AB (DI (OD hh hx)) K
theorem Y1 {B:Type} {h:List V} {id:Nat} {m:Msg} (hh:h[id]?=some (AV m)) (K:V→Option B):(BA P 108 0 (.ref id [] 108)).bind (fun t=>(Ae h 3 t).bind K)=K (.int .i64 m.fr):=AIc 0 _ rfl (by rw[Yi];decide) hh rfl K
theorem Y2 {B:Type} {h:List V} {id:Nat} {m:Msg} (hh:h[id]?=some (AV m)) (K:V→Option B):(BA P 108 1 (.ref id [] 108)).bind (fun t=>(Ae h 3 t).bind K)=K (.int .i64 m.to):=AIc 1 _ rfl (by rw[Yi];decide) hh rfl K
theorem XE {B:Type} {h:List V} {id:Nat} {m:Msg} (hh:h[id]?=some (AV m)) (K:V→Option B):(BA P 108 2 (.ref id [] 108)).bind (fun t=>(Ae h 2 t).bind K)=K (.int .i64 m.val):=AIc 2 _ rfl (by rw[AJm];decide) hh rfl K
theorem XF {B:Type} (b:Bool) (x y:Option B):V.ite (.bool b) x y=if b=true then x else y:=by cases b<;>rfl
theorem cmp_neg (x y:Msg):I9 x y=true↔(x.to<y.to∨(x.to=y.to∧(x.fr<y.fr∨(x.fr=y.fr∧x.val<y.val)))):=by
 simp only[I9,AK0,or3,Yz,decide_eq_true_eq]
 rcases Int.lt_trichotomy x.to y.to with h|h|h
 ·simp[h]
 ·rcases Int.lt_trichotomy x.fr y.fr with g|g|g
  ·simp[h,g]
  ·rcases Int.lt_trichotomy x.val y.val with k|k|k
   ·simp[h,g,k]
   ·simp[h,g,k]
   ·have n:¬x.val<y.val:=by omega
    simp[h,g,k,n]
  ·have n:¬x.fr<y.fr:=by omega
   have n2:¬x.fr=y.fr:=by omega
   simp[h,g,n,n2]
 ·have n:¬x.to<y.to:=by omega
  have n2:¬x.to=y.to:=by omega
  simp[h,n,n2]
theorem JY (x y:Msg):I9 x y=false↔¬(x.to<y.to∨(x.to=y.to∧(x.fr<y.fr∨(x.fr=y.fr∧x.val<y.val)))):=by
 rw[←cmp_neg];simp
theorem JZ:Sort.SWO I9 where
 irrefl x:=by rw[JY];omega
 trans x y z:=by simp only[cmp_neg];omega
 ntrans x y z:=by simp only[JY];omega
theorem AId (x y:Msg) (h1:I9 x y=false) (h2:I9 y x=false):x=y:=by
 rw[JY]at h1 h2
 cases x;cases y
 simp only[Msg.mk.injEq]
 simp only[]at h1 h2
 omega
def MP (f:Fl) (l:List Msg):V:= .lst 108 f (l.map AV)
def Bl (l:List Msg):List Msg:=l.mergeSort (fun x y=> !I9 y x)
theorem Og:∀l:List Msg,AU (l.map AV)=true
 |[]=>rfl
 |x::l=>by simp only[List.map_cons,AU,Og l];rfl
theorem Y3:∀l:List Msg,AP (l.map AV)=l.map AV
 |[]=>rfl
 |x::l=>by simp only[List.map_cons,AP,Y3 l];rfl
theorem ACm (l:List Msg):F8 P 108 (l.map AV)=true:=by simp[F8,Y0]
def ML (m:Msg):Int×Int×Int:=(m.fr,m.to,m.val)
theorem Wy (x y:Msg):decide (Pm 2 (ML x) (ML y)<0)=I9 x y:=by
 have hr:∀z,MZ 2 z=true:=fun _=>rfl
 rw[Bool.eq_iff_iff,decide_eq_true_eq,cmp_neg]
 unfold Pm cl3
 rw[if_pos (hr _),if_pos (hr _),ACR (by decide)]
 simp only[ML]
theorem AFH (x y:Int×Int×Int) (h1:decide (Pm 2 x y<0)=false) (h2:decide (Pm 2 y x<0)=false):x=y:=by
 have hr:∀z,MZ 2 z=true:=fun _=>rfl
 rw[decide_eq_false_iff_not]at h1 h2
 unfold Pm cl3 at h1 h2
 rw[if_pos (hr _),if_pos (hr _),ACR (by decide)]at h1 h2
 obtain⟨a,b,c⟩:=x
 obtain⟨a',b',c'⟩:=y
 simp only at h1 h2
 rw[Prod.mk.injEq,Prod.mk.injEq]
 omega
theorem AIe (l:List Msg):D7 2 (l.map ML)=(Bl l).map ML:=by
 have h:=U4 2 (l.map ML)
 have e:=Sort.sorted_unique_holds (MK 2) AFH _ _ h.1 h.2
 simp only[List.toList_toArray]at e
 rw[e,Bl]
 refine(List.map_mergeSort fun a _ b _=> ?_).symm
 rw[←Wy]
theorem ACn:∀l:List Msg,(l.map AV).all (i3t 107)=true
 |[]=>rfl
 |x::l=>by rw[List.map_cons,List.all_cons,ACn l];rfl
theorem AGl:∀l:List Msg,(l.map AV).all (fun x=>MZ 2 (t3 x))=true
 |[]=>rfl
 |x::l=>by rw[List.map_cons,List.all_cons,AGl l];rfl
theorem AK3 (l:List Msg):(l.map AV).map t3=l.map ML:=by rw[List.map_map];rfl
theorem AK4 (l:List Msg):(l.map ML).map (WH 107)=l.map AV:=by rw[List.map_map];rfl
theorem sort_aps {h:List V} {id:Nat} {l:List Msg} (hh:h[id]?=some (rowM l.toArray)) (hl:l.length≤1000000):
 Zb 2000128 108 [winM id l.length,cm] h=some (.tup [],h.set id (rowM (Bl l).toArray)):=by
 have hd:2000128/1000000=2:=rfl
 have tg:(l.map AV).all (i3t (Rk (l.map AV)))=true:=by
  cases l with
  |nil=>rfl
  |cons x l=>exact ACn (x::l)
 have mk:((D7 2 (l.map ML)).map (WH (Rk (l.map AV))))=(Bl l).map AV:=by
  rw[AIe]
  cases l with
  |nil=>rw[show Bl []=[]from by simp[Bl]];rfl
  |cons x l=>exact AK4 _
 simp only[Zb,winM,rowM]at hh⊢
 have e1:Nat.beq l.length (l.map AV).length=true:=by simp
 have e2:Nat.ble (l.map AV).length C9=true:=by simp[C9,Nat.ble_eq];omega
 simp only[hh,hd]
 rw[if_pos (by simp only[tg,AGl,e1,e2];rfl),AK3,mk]
theorem AIf {B:Type} (f:Fl) (l:List Msg) (hl:l.length≤1000000) (k:V×List V→Option B):
 ((D5 P 31 [] (.lst 108 .nil []) (MP f l)).bind fun v=>(Dh [] v).bind k)=k (winM 0 l.length,[rowM l.toArray]):=by
 cases l with
 |nil=>
  refine(AB (show D5 P 31 [] (.lst 108 .nil []) (MP f [])=some (.lst 108 .nil [])by simp[D5,Sj,MP,Af,AU,F8,C9,DY,AB1]) _).trans ?_
  rfl
 |cons x t=>
  refine(AB (AEl Sj (Or.inr rfl) (y:=MP f (x::t)) (ys:=(x::t).map AV) rfl (Og _) (ACm _) (by simp;simp at hl;omega) AB1 (fun _=>rfl)) _).trans ?_
  rw[List.nil_append]
  exact AB (show Dh [] (.lst 108 .own ((x::t).map AV))=some (winM 0 (x::t).length,[rowM (x::t).toArray])by simp[Dh,winM,rowM]) _
theorem XG (l:List Msg):(Bl l).length=l.length:=by rw[Bl,List.length_mergeSort]
theorem Y4 (f:Fl) (l:List Msg) (hl:l.length≤1000000):Cl 106 [MP f l] []=some (MP .sh (Bl l),[]):=by
 rw[AD9,X4,X5]
 refine(AIf f l hl _).trans ?_
 rw[X6]
 refine(AB (sort_aps (h:=[rowM l.toArray]) (id:=0) rfl hl) _).trans ?_
 rw[X7]
 have c:Af [rowM (Bl l).toArray] (winM 0 l.length)=some ((Bl l).map AV):=by
  simp[Af,winM,rd,V.at,V.items,rowM]
  rw[←XG l];exact List.take_of_length_le (by simp)
 have u:(winM 0 l.length).unmut [rowM (Bl l).toArray]= .lst 108 .sh ((Bl l).map AV):=by
  rw[winM]at c⊢
  simp only[V.unmut,c,Og,Y3,if_true]
 show AY 0 [rowM (Bl l).toArray] (winM 0 l.length)=_
 simp only[AY,u]
 rfl
end
section
open Go AM
def Z9 (m:Msg):Prop:=I64 m.fr∧I64 m.to∧I64 m.val
def rowB (m:Msg):List UInt8:=if m.fr<0∨m.to<0 then[]else Aa m.fr.toNat++Aa m.to.toNat++Aa (KC m.val)
theorem Oh (m:Msg):(rowB m).length≤30:=by
 have a:=Ac 10 m.fr.toNat;have b:=Ac 10 m.to.toNat;have c:=Ac 10 (KC m.val)
 simp only[rowB];split
 ·simp
 ·simp only[List.length_append,Aa];omega
theorem KE (h:List V):∀l:List Msg,AL h (l.map AV)=l.map AV
 |[]=>rfl
 |x::l=>by simp only[List.map_cons,AL,KE h l];rfl
theorem ACo (h:List V) (f:Fl) (l:List Msg):∃g,V.reify h (MP f l)=MP g l:=by
 cases f<;>simp only[MP,V.reify,KE]<;>exact⟨_,rfl⟩
theorem IB (h:List V) (f:Fl) (l:List Msg):∃g,AL h [MP f l]=[MP g l]:=by
 obtain⟨g,hg⟩:=ACo h f l;exact⟨g,by simp only[AL,hg]⟩
theorem AFI (f:Fl) (l:List Msg):∃g,(MP f l).weak=MP g l:=Gh
theorem AIg {m:Msg} (hm:Z9 m):Cl 107 [AV m] []=some (.str (rowB m),[]):=by
 obtain⟨h1,h2,h3⟩:=hm
 have c1:(BQ P 108 (AV m)&&V.under (List.length ([]:List V)) (AV m))=true:=by rw[Y0,AK2];rfl
 have g0:([]++[AV m]:List V)[0]?=some (AV m):=rfl
 rw[AEA,X8,if_pos c1,X9]
 refine(Y1 g0 _).trans ?_
 by_cases hf:m.fr<0
 ·refine(Iw hf _).trans ?_
  rw[BV,BV,SN,rowB,if_pos (Or.inl hf)];rfl
 refine(Iy hf _).trans ?_
 rw[BP]
 refine(Y2 g0 _).trans ?_
 by_cases ht:m.to<0
 ·refine(Iw ht _).trans ?_
  rw[BV,SN,rowB,if_pos (Or.inr ht)];rfl
 refine(Iy ht _).trans ?_
 rw[BP,YA]
 refine(AB (FU _) _).trans ?_
 have g1:∀o:V,([]++[AV m]++[o]:List V)[0]?=some (AV m):=fun o=>rfl
 have o1:∀o:V,([]++[AV m]++[o]:List V)[1]?=some o:=fun o=>rfl
 have st:∀o o':V,([]++[AV m]++[o]:List V).set 1 o'=[]++[AV m]++[o']:=fun o o'=>rfl
 have a:=Ac 10 m.fr.toNat;have b:=Ac 10 m.to.toNat;have c:=Ac 10 (KC m.val)
 have nr:∀(x:Int) (k:IntKind),AP [BK ([]++[AV m]:List V).length,.int k x]=[BK 1,.int k x]:=fun x k=>rfl
 rw[YB]
 refine(Y1 (g1 _) _).trans<|(Yx (by omega) h1.2 _).trans ?_
 rw[nr]
 refine(AB (Cm (o1 _) (Or.inr rfl) (by have:=h1.2;omega) (by simp)) _).trans ?_
 rw[st,YC]
 refine(Y2 (g1 _) _).trans<|(Yx (by omega) h2.2 _).trans ?_
 rw[nr]
 refine(AB (Cm (o1 _) (Or.inl rfl) (by have:=h2.2;omega) (by simp only[Aa,List.length_append,List.length_nil];omega)) _).trans ?_
 rw[st,YD]
 refine(XE (g1 _) _).trans ?_
 rw[nr]
 refine(AB (Qh (o1 _) (Or.inl rfl) h3.1 h3.2 (by simp only[Aa,List.length_append,List.length_nil];omega)) _).trans ?_
 rw[st,YE]
 refine(AB (Ee (o1 _)) _).trans ?_
 rw[MF,rowB,if_neg (by omega)]
 simp
theorem Qv:∀(n:Nat) (l:List Msg),Ad n (l.map AV)=true
 |_,[]=>rfl
 |n,x::l=>by simp only[List.map_cons,Ad,Qv n l];rfl
theorem VN (n:Nat) (f:Fl) (l:List Msg):(MP f l).under n=true:=by cases f<;>first|rfl|exact Qv n l
theorem XH {l:List Msg} {i:Nat} (hi:i<l.length):(l.map AV)[i]?=some (AV l[i]):=by simp[hi]
theorem AFJ (l:List Msg) (hl:∀m∈l,Z9 m) (hn:l.length≤1000000) (g:Fl):∀(n i:Nat) (f:Fl) (done:List (List UInt8)),i+n=l.length→OK f→done.length=i→
 SL (sL f done) (MP g l) (iv l.length) (iv i) []=some (sL .sh (done++(l.drop i).map rowB),[]):=by
 intro n
 induction n with
 |zero=>
  intro i f done hi hf hd
  rw[QU,Wh]
  refine(Iy (by omega) _).trans ?_
  rw[BP,ABt,AIL 0 [] f (by rcases hf with rfl|rfl<;>(intro h;cases h)),List.drop_eq_nil_of_le (by omega)]
  simp
 |succ n ih=>
  intro i f done hi hf hd
  have hlt:i<l.length:=by omega
  rw[QU,Wh]
  refine(Iw (by omega) _).trans ?_
  rw[BV,ABq]
  refine(Zn Sj (XH hlt) _).trans<|(ldR _).trans ?_
  refine(AB (EF (P:=P) (h:=[]++[zero P 108]) (id:=0) rfl (Y0 _) rfl) _).trans ?_
  rw[ABr]
  refine(AB (DI (v:=AV l[i]) (FM rfl)) _).trans ?_
  refine(AB (AIg (hl _ (List.getElem_mem hlt))) _).trans ?_
  refine(AKn hf (by omega) _ _).trans ?_
  rw[ABs]
  refine(KA (b:=1) (by omega) _).trans ?_
  have u:Ad (List.length ([]:List V)) [sL .own (done++[rowB l[i]]),MP g l,iv l.length,iv (i+1)]=true:=by
   simp only[Ad,ACX,VN];rfl
  refine(if_pos u).trans ?_
  have:=ih (i+1) .own (done++[rowB l[i]]) (by omega) (Or.inl rfl) (by simp[hd])
  rw[List.append_assoc]at this
  rw[List.drop_eq_getElem_cons hlt,List.map_cons]
  exact this
theorem Qw {l:List Msg} {m:Msg}:m∈Bl l↔m∈l:=List.mem_mergeSort
theorem CU (l:List Msg):(Bl l).length=l.length:=List.length_mergeSort l
def EP (l:List Msg):List (List UInt8):=(Bl l).map rowB
theorem AFK {f:Fl} {l:List Msg} (hl:∀m∈l,Z9 m) (hn:l.length≤1000000):Cl 75 [MP f l] []=some (sL .sh (EP l),[]):=by
 rw[AHg,ABn,ABo,ABp]
 obtain⟨g,hg⟩:=IB [] f l
 rw[hg]
 refine(AB (Y4 g l hn) _).trans ?_
 refine(Zm Si _).trans ?_
 have:=AFJ (Bl l) (fun m hm=>hl m (Qw.1 hm)) (by rw[CU];exact hn) .sh (Bl l).length 0 .nil [] (by omega) (Or.inr rfl) rfl
 rw[List.drop_zero,List.nil_append]at this
 rw[List.length_map]
 exact this
end
section
open Go AM
def inR (x:Int):Bool:=decide (0≤x)&&decide (x<64)
def mR (m:Msg):Bool:=inR m.fr&&inR m.to&&decide (m.val≤1125899906842624)&&decide (-1125899906842624≤m.val)
def FX (a b:Msg):Bool:=decide (a.fr=b.fr)&&decide (a.to=b.to)
def EH (l:List Msg):Nat→Nat→Bool
 |0,_=>true
 |n+1,i=> !(decide (0<i)&&FX (l.getD (i-1) default) (l.getD i default))&&mR (l.getD i default)&&EH l n (i+1)
def Ja (l:List Msg):Bool:=decide (l.length≤512)&&EH (Bl l) l.length 0
theorem AGm (x:Int):Cl 105 [.int .i64 x] []=some (.bool (inR x),[]):=by
 rw[AD8,X0,X3]
 by_cases h:0≤x
 ·refine(AKB h _).trans ?_
  rw[BV]
  refine(AB (b_lss _ _ _) _).trans ?_
  rw[inR,decide_eq_true h];rfl
 ·refine(AKC h _).trans ?_
  rw[BP,inR,decide_eq_false h];rfl
abbrev cc:V:= .clo 105 []
theorem AIh {h:List V} {id:Nat} {m:Msg} (hh:h[id]?=some (AV m)) (dup:Bool) (K:V→List V→Option (V×List V)):
 WZ cc (.ref id [] 108) (.bool dup) h K=K (.bool (!mR m||dup)) h:=by
 rw[WZ]
 refine(Y1 hh _).trans ?_
 refine(MB (f:=105) (cs:=[]) _ (by kernel_rfl) (by kernel_rfl)).trans ?_
 refine(AB (AGm m.fr) _).trans ?_
 refine(if_pos rfl).trans<|(AK1 _ _).trans ?_
 rw[XF]
 by_cases h1:inR m.fr=true
 ·rw[if_neg (by simp[h1])]
  refine(Y2 hh _).trans ?_
  refine(MB (f:=105) (cs:=[]) _ (by kernel_rfl) (by kernel_rfl)).trans ?_
  refine(AB (AGm m.to) _).trans ?_
  refine(if_pos rfl).trans<|(AK1 _ _).trans ?_
  rw[XF]
  by_cases h2:inR m.to=true
  ·rw[if_neg (by simp[h2])]
   refine(XE hh _).trans ?_
   by_cases h3:m.val≤1125899906842624
   ·refine(AIb (by omega) _).trans ?_
    rw[BP]
    refine(XE hh _).trans ?_
    by_cases h4: -1125899906842624≤m.val
    ·refine(Iy (by omega) _).trans ?_
     rw[BP];simp[mR,h1,h2,h3,h4]
    ·refine(Iw (by omega) _).trans ?_
     rw[BV];simp[mR,h4]
   ·refine(AIa (by omega) _).trans ?_
    rw[BV];simp[mR,h3]
  ·rw[if_pos (by simp[h2])];simp[mR,h2]
 ·rw[if_pos (by simp[h1])];simp[mR,h1]
theorem AK5 {B:Type} {h:List V} {m:Msg} {x:Int} (j:Nat) (u:TypeId) (hj:[3,3,2][j]?=some u) (hu:P.cellsOf u≠0) (hx:[V.int .i64 m.fr,V.int .i64 m.to,V.int .i64 m.val][j]?=some (.int .i64 x)) (K:V→Option B):
 (BA P 108 j (.rop 108 (AV m))).bind (fun t=>(Ae h u t).bind K)=K (.int .i64 x):=by
 refine(AB (show BA P 108 j (.rop 108 (AV m))=some (.rop u (.int .i64 x))by simp[BA,Yj,hj,hu,AV,hx]) _).trans ?_
 exact ldR K
theorem AK6 {B:Type} {h:List V} {m:Msg} (K:V→Option B):(BA P 108 0 (.rop 108 (AV m))).bind (fun t=>(Ae h 3 t).bind K)=K (.int .i64 m.fr):=AK5 0 _ rfl (by rw[Yi];decide) rfl K
theorem AK7 {B:Type} {h:List V} {m:Msg} (K:V→Option B):(BA P 108 1 (.rop 108 (AV m))).bind (fun t=>(Ae h 3 t).bind K)=K (.int .i64 m.to):=AK5 1 _ rfl (by rw[Yi];decide) rfl K
theorem MQ {l:List Msg} {i:Nat} (hi:i<l.length):(l.map AV)[i]?=some (AV (l.getD i default)):=by
 rw[XH hi,List.getD_eq_getElem?_getD,List.getElem?_eq_getElem hi];rfl
theorem AIi {h:List V} {id i:Nat} {g:Fl} {l:List Msg} {m:Msg} (hh:h[id]?=some (AV m)) (hi:i<l.length) (hn:l.length≤1000000) (K:V→Option (V×List V)):
 WY (MP g l) (iv i) (.ref id [] 108) h K=K (.bool (decide (0<i)&&FX (l.getD (i-1) default) m)):=by
 rw[WY]
 by_cases h0:0<i
 ·refine(AIa (by omega) _).trans ?_
  rw[BV]
  refine(LW (b:=1) (by omega) (by omega) _).trans<|(AEj Sj (MQ (i:=i-1) (by omega)) _).trans<|(AK6 _).trans<|(Y1 hh _).trans ?_
  by_cases h1:(l.getD (i-1) default).fr=m.fr
  ·refine(AMX h1 _).trans ?_
   rw[BV]
   refine(LW (b:=1) (by omega) (by omega) _).trans<|(AEj Sj (MQ (i:=i-1) (by omega)) _).trans<|(AK7 _).trans<|(Y2 hh _).trans ?_
   refine(AB (b_eql _ _ _) _).trans ?_
   rw[FX,decide_eq_true h0,decide_eq_true h1];rfl
  ·refine(AMY h1 _).trans ?_
   rw[BP,FX,decide_eq_false h1];simp
 ·refine(AIb (by omega) _).trans ?_
  rw[BP,decide_eq_false h0];rfl
theorem AIj (l:List Msg) (hn:l.length≤1000000) (g g':Fl):∀(n i:Nat),i+n=l.length→
 SK cc (MP g l) (MP g' l) (iv l.length) (iv i) []=some (iv (if EH l n i=true then 0 else 110),[]):=by
 intro n
 induction n with
 |zero=>
  intro i hi
  rw[QT,WX]
  refine(Iy (by omega) _).trans ?_
  rw[BP,Xy,MC];rfl
 |succ n ih=>
  intro i hi
  have hlt:i<l.length:=by omega
  rw[QT,WX]
  refine(Iw (by omega) _).trans ?_
  rw[BV,ABm]
  refine(Zn Sj (MQ hlt) _).trans<|(ldR _).trans ?_
  refine(AB (EF (P:=P) (h:=[]++[zero P 108]) (id:=0) rfl (Y0 _) rfl) _).trans ?_
  generalize hm:l.getD i default=m
  have hh:(([]++[zero P 108]:List V).set 0 (AV m))[0]?=some (AV m):=rfl
  refine(AIi (id:=0) hh hlt hn _).trans ?_
  refine(AIh (id:=0) hh _ _).trans ?_
  rw[XF,EH,hm]
  generalize (decide (0<i)&&FX (l.getD (i-1) default) m)=db at*
  by_cases hb:(!mR m||db)=true
  ·rw[if_pos hb,Xw,MC]
   have e:(!db&&mR m&&EH l n (i+1))=false:=by
    cases h1:mR m<;>cases h2:db<;>simp[h1,h2]at hb⊢
   rw[e];rfl
  ·rw[if_neg hb,Xx]
   refine(KA (b:=1) (by omega) _).trans ?_
   have u:Ad (List.length ([]:List V)) [cc,MP g l,MP g' l,iv l.length,iv (i+1)]=true:=by
    simp only[Ad,VN];rfl
   refine(if_pos u).trans ?_
   have e:(!db&&mR m&&EH l n (i+1))=EH l n (i+1):=by
    cases h1:mR m<;>cases h2:db<;>simp[h1,h2]at hb⊢
   rw[e]
   exact ih (i+1) (by omega)
theorem ACp {f:Fl} {l:List Msg} (hn:l.length≤1000000):Cl 74 [MP f l] []=some (iv (if Ja l=true then 0 else 110),[]):=by
 rw[AHf,ABg,ABh,ABi]
 refine(Wn Si _).trans ?_
 rw[List.length_map]
 by_cases h:l.length≤512
 ·refine(AIb (by omega) _).trans ?_
  rw[BP,ABk]
  obtain⟨g,hg⟩:=IB [] f l
  rw[hg]
  refine(AB (Y4 g l hn) _).trans ?_
  rw[ABl]
  refine(Wn Si _).trans ?_
  rw[List.length_map]
  refine(AIj (Bl l) (by rw[CU];exact hn) .sh .sh (Bl l).length 0 (by omega)).trans ?_
  rw[Ja,decide_eq_true h,CU,Bool.true_and]
 ·refine(AIa (by omega) _).trans ?_
  rw[BV,ABj,MC,Ja,decide_eq_false h];rfl
def DU (s:List UInt8):List UInt8:=Aa s.length++s
def FY (l:List Msg):List UInt8:=Aa l.length++((EP l).map DU).flatten
theorem ACq (n:Nat) (h:List V) (s:List UInt8) (x:Int):(if(List.all [V.int .i64 x,V.str s] V.okE)=true then AY n h (V.tup [.str s,.int .i64 x])else none)=some (.tup [.str s,.int .i64 x],h.take n):=rfl
theorem AIk (rs:List (List UInt8)) (hr:∀r∈rs,r.length≤100) (hn:rs.length≤1000000):∀(n i:Nat) (done:List UInt8),i+n=rs.length→done.length≤200*i+100→
 SG (BK 0) (sL .sh rs) (iv rs.length) (iv i) [Ar .own done]=some (.tup [.str (done++((rs.drop i).map DU).flatten),.int .i64 0],[]):=by
 intro n
 induction n with
 |zero=>
  intro i done hi hd
  rw[QR,WW]
  refine(Iy (by omega) _).trans ?_
  rw[BP,Xv]
  refine(AB (Ee (id:=0) (h:=[Ar .own done]) rfl) _).trans ?_
  refine(ACq _ _ _ _).trans ?_
  rw[List.drop_eq_nil_of_le (by omega)];simp
 |succ n ih=>
  intro i done hi hd
  have hlt:i<rs.length:=by omega
  have hg:(rs.map V.str)[i]?=some (V.str rs[i]):=by simp[hlt]
  have hl:=hr _ (List.getElem_mem hlt)
  have nb:=Ac 10 rs[i].length
  rw[QR,WW]
  refine(Iw (by omega) _).trans ?_
  rw[BV,ABV]
  refine(Zn AET hg _).trans<|(ldR _).trans ?_
  rw[ABW]
  have e1:AP [BK 0,V.str rs[i]]=[BK 0,V.str rs[i]]:=rfl
  rw[e1]
  refine(AB (I5 (id:=0) (h:=[Ar .own done]) rfl (Or.inl rfl) (by omega)) _).trans ?_
  rw[Xu]
  refine(KA (b:=1) (by omega) _).trans ?_
  have:=ih (i+1) (done++Aa rs[i].length++rs[i]) (by omega) (by simp only[List.length_append,Aa];omega)
  rw[List.drop_eq_getElem_cons hlt,List.map_cons,List.flatten_cons,DU]
  simp only[List.append_assoc]at this⊢
  exact this
theorem AIl {f:Fl} {l:List Msg} (hl:∀m∈l,Z9 m) (hn:l.length≤1000000):
 Cl 49 [MP f l] []=some (if Ja l=true then .tup [.str (FY l),.int .i64 0]else .tup [.str [],.int .i64 110],[]):=by
 rw[AHS,ABO,ABP]
 obtain⟨g0,hg0⟩:=AFI f l
 obtain⟨g,hg⟩:=IB [] g0 l
 rw[hg0,hg]
 refine(AB (ACp hn) _).trans ?_
 rw[ABQ]
 by_cases hc:Ja l=true
 ·rw[if_pos hc,if_pos hc]
  refine(AMa (by simp) _).trans ?_
  rw[BP,ABS]
  refine(AB (FU _) _).trans ?_
  rw[ABT,hg0]
  refine(Zm Si _).trans ?_
  rw[List.length_map]
  refine(Yx (by omega) (by omega) _).trans ?_
  have e1:AP [BK ([]:List V).length,V.int .u64 ((l.length:Int).toNat:Int)]=[BK 0,V.int .u64 (l.length:Int)]:=rfl
  rw[e1]
  have nb:=Ac 10 l.length
  refine(AB (Cm (id:=0) (h:=[]++[Ar .nil []]) rfl (Or.inr rfl) (by omega) (by simp)) _).trans ?_
  rw[ABU]
  obtain⟨g2,hg2⟩:=IB (([]++[Ar .nil []]).set 0 (Ar .own ([]++Aa l.length))) f l
  rw[hg2]
  refine(AB (AFK hl hn) _).trans ?_
  refine(Zm AHv _).trans ?_
  have hlen:(EP l).length=l.length:=by rw[EP,List.length_map,CU]
  have:=AIk (EP l) (by
   intro r hr
   rw[EP]at hr
   obtain⟨m,_,rfl⟩:=List.mem_map.1 hr
   have:=Oh m;omega) (by omega) (EP l).length 0 (Aa l.length) (by omega) (by rw[Aa];omega)
  rw[List.drop_zero]at this
  rw[List.length_map]
  exact this
 ·rw[if_neg hc,if_neg hc]
  refine(AMZ (by simp) _).trans ?_
  rw[BV,ABR]
  exact ACq _ _ _ _
end
section
open Go AM
end
section
open Go AM
end
section
open Go AM
def AIm (l:List Msg):List UInt8:=ACa (EP l)
end
section
open Go AM
theorem Jb (l:List Msg):(Bl l).Pairwise fun x y=>(!I9 y x)=true:=by
 refine List.pairwise_mergeSort ?_ ?_ l
 ·intro a b c h1 h2
  simp only[Bool.not_eq_true']at h1 h2⊢
  exact JZ.ntrans c b a h2 h1
 ·intro a b
  simp only[Bool.or_eq_true,Bool.not_eq_true']
  cases h:I9 b a with
  |false=>exact Or.inl rfl
  |true=>
   right
   cases h2:I9 a b with
   |false=>rfl
   |true=>have:=JZ.trans _ _ _ h h2;rw[JZ.irrefl]at this;cases this
theorem VO {l m:List Msg} (hl:l.Pairwise fun x y=>(!I9 y x)=true) (hm:m.Pairwise fun x y=>(!I9 y x)=true) (h:l.Perm m):l=m:=by
 refine List.Perm.eq_of_pairwise (le:=fun x y=>(!I9 y x)=true) ?_ hl hm h
 intro a b _ _ h1 h2
 simp only[Bool.not_eq_true']at h1 h2
 exact AId a b h2 h1
@[go_sem] theorem AIn (l:List Msg):(AIm l).length=32:=Qq _ _
end
section
open Go AM
theorem Y5 (a b:Msg):Iq (AV a) (AV b)=some (decide (a=b)):=by
 simp only[AV,Iq,Jy,if_true,Option.bind_some]
 by_cases h1:a.fr=b.fr<;>by_cases h2:a.to=b.to<;>by_cases h3:a.val=b.val<;>cases a<;>cases b<;>simp_all
@[go_sem] theorem eqM (a b:Msg):WI (BJ 107) .eql (AV a) (AV b)=some (.bool (decide (a=b))):=by
  simp only[WI,VI,Bool.and_self,if_true,Y5,Option.map_some]
@[go_sem] theorem neM (a b:Msg):WI (BJ 107) .neq (AV a) (AV b)=some (.bool (!decide (a=b))):=by
  simp only[WI,VI,Bool.and_self,if_true,Y5,Option.map_some]
theorem JA {l:List Msg} {i:Nat} (h:i<l.length):(l.map AV)[i]?=some (AV (l.getD i default)):=MQ h
theorem Y6 (a b:Msg):Cl 129 [AV a,AV b] []=some (.bool (I9 a b),[]):=by
 rw[AEK]
 have hc:=cmp_neg a b
 by_cases h1:a.to=b.to<;>by_cases h2:a.fr=b.fr<;>simp(disch:=first|assumption|omega|(with_reducible rfl)|(simp only[go_sem];done)|(simp only[go_sem];omega)|fail) only[↓reduceIte,↓AA,Nat.reduceAdd,go_sem,AV]
 all_goals
  congr 3
  rw[Bool.eq_iff_iff,decide_eq_true_iff,hc];omega
def Fv (x:Msg) (out:List Msg):Nat→Nat→Nat
 |0,at_=>at_
 |n+1,at_=>if I9 x (out.getD at_ default)=true then at_ else Fv x out n (at_+1)
theorem Y7 (x:Msg) (out:List Msg):∀n i,i≤Fv x out n i∧Fv x out n i≤i+n
 |0,i=>by simp[Fv]
 |n+1,i=>by
  rw[Fv];split
  ·omega
  ·have:=Y7 x out n (i+1);omega
theorem Qx (x:Msg) (out:List Msg):∀n i,(∀j,i≤j→j<Fv x out n i→I9 x (out.getD j default)=false)∧(Fv x out n i<i+n→I9 x (out.getD (Fv x out n i) default)=true)
 |0,i=>by simp only[Fv];exact⟨fun j h1 h2=>by omega,fun h=>by omega⟩
 |n+1,i=>by
  rw[Fv]
  by_cases h:I9 x (out.getD i default)=true
  ·rw[if_pos h];exact⟨fun j h1 h2=>by omega,fun _=>h⟩
  ·rw[if_neg h]
   obtain⟨a,b⟩:=Qx x out n (i+1)
   refine⟨fun j h1 h2=> ?_,fun h3=>b (by omega)⟩
   by_cases e:j=i
   ·subst e;simpa using h
   ·exact a j (by omega) h2
def TQ (x:Msg) (out:List Msg):List Msg:=out.take (Fv x out out.length 0)++[x]++out.drop (Fv x out out.length 0)
theorem Qy (x:Msg) (out:List Msg):(TQ x out).Perm (x::out):=by
 have:=List.perm_middle (a:=x) (l₁:=out.take (Fv x out out.length 0)) (l₂:=out.drop (Fv x out out.length 0))
 rw[List.take_append_drop]at this
 simpa [TQ]using this
theorem getD_lt {l:List Msg} {i:Nat} (h:i<l.length):l.getD i default=l[i]:=by
 rw[List.getD_eq_getElem?_getD,List.getElem?_eq_getElem h];rfl
theorem VP {x:Msg} {out:List Msg} (h:out.Pairwise fun x y=>(!I9 y x)=true):(TQ x out).Pairwise fun x y=>(!I9 y x)=true:=by
 obtain⟨a,b⟩:=Qx x out out.length 0
 have hp:=(Y7 x out out.length 0).2
 generalize hpp:Fv x out out.length 0=p at*
 rw[TQ,hpp]
 have hs:(out.take p++out.drop p).Pairwise fun x y=>(!I9 y x)=true:=by rw[List.take_append_drop];exact h
 obtain⟨h1,h2,h3⟩:=List.pairwise_append.1 hs
 have bef:∀y∈out.take p,(!I9 x y)=true:=by
  intro y hy
  obtain⟨j,hj,rfl⟩:=List.mem_iff_getElem.1 hy
  have hj':j<p∧j<out.length:=by simp at hj;omega
  have:=a j (by omega) hj'.1
  rw[getD_lt hj'.2]at this
  simp[this]
 have aft:∀y∈out.drop p,(!I9 y x)=true:=by
  intro y hy
  obtain⟨j,hj,rfl⟩:=List.mem_iff_getElem.1 hy
  have hj':p+j<out.length:=by simp at hj;omega
  have hb:=b (by omega)
  rw[getD_lt (by omega)]at hb
  rw[List.getElem_drop]
  have hpj:(!I9 out[p+j] out[p])=true:=by
   rcases Nat.eq_zero_or_pos j with rfl|hj0
   ·simp[JZ.irrefl]
   ·exact List.pairwise_iff_getElem.1 h p (p+j) (by omega) hj' (by omega)
  cases hc:I9 out[p+j] x with
  |false=>rfl
  |true=>rw[JZ.trans _ _ _ hc hb]at hpj;cases hpj
 rw[List.append_assoc,List.pairwise_append]
 refine⟨h1,?_,?_⟩
 ·simp only[List.singleton_append,List.pairwise_cons];exact⟨aft,h2⟩
 ·intro y hy z hz
  simp only[List.singleton_append,List.mem_cons]at hz
  rcases hz with rfl|hz
  ·exact bef y hy
  ·exact h3 y hy z hz
def JB:List Msg→List Msg→List Msg
 |[],out=>out
 |x::l,out=>JB l (TQ x out)
theorem Qz:∀(l out:List Msg),out.Pairwise (fun x y=>(!I9 y x)=true)→(JB l out).Pairwise (fun x y=>(!I9 y x)=true)∧(JB l out).Perm (l++out)
 |[],out,h=>⟨h,List.Perm.refl _⟩
 |x::l,out,h=>by
  obtain⟨a,b⟩:=Qz l (TQ x out) (VP h)
  refine⟨a,b.trans ?_⟩
  refine((Qy x out).append_left l).trans ?_
  exact List.perm_middle
theorem VQ (l:List Msg):JB l []=Bl l:=by
 obtain⟨a,b⟩:=Qz l [] List.Pairwise.nil
 rw[List.append_nil]at b
 exact VO a (Jb l) (b.trans (List.mergeSort_perm l _).symm)
theorem ACr (x:Msg) (out:List Msg):(TQ x out).length=out.length+1:=by rw[(Qy x out).length_eq];rfl
theorem AFL {g:Fl} {l:List Msg} {i:Nat} (hi:i<l.length) (hn:l.length≤1000000) (out:List Msg) (ho:out.length≤1000000) (m:Nat):∀(n a:Nat),a+n=out.length→
 LZ (.lst 108 g (l.map AV)) (.lst 108 .own (out.map AV)) (.int .i64 (i:Int)) (.int .i64 (a:Int)) m=
  JQ (.lst 108 g (l.map AV)) (.lst 108 .own ((out.take (Fv (l.getD i default) out n a)++[l.getD i default]++out.drop (Fv (l.getD i default) out n a)).map AV)) (.int .i64 ((i+1:Nat):Int)):=by
 intro n
 induction n with
 |zero=>
  intro a ha
  have h:¬a<out.length:=by omega
  rw[NM,Fv]
  simp(disch:=first|assumption|omega|(with_reducible rfl)|(simp only[go_sem];done)|(simp only[go_sem];omega)|fail) only[↓reduceIte,↓AA,Nat.reduceAdd,go_sem,JA hi,←List.map_take,←List.map_drop,List.map_append,List.map_cons,List.map_nil]
 |succ n ih=>
  intro a ha
  have h:a<out.length:=by omega
  rw[NM,Fv]
  by_cases hl:I9 (l.getD i default) (out.getD a default)=true
  ·rw[if_pos hl]
   simp(disch:=first|assumption|omega|(with_reducible rfl)|(simp only[go_sem];done)|(simp only[go_sem];omega)|fail) only[↓reduceIte,↓AA,Nat.reduceAdd,go_sem,JA hi,JA h,Y6,hl,←List.map_take,←List.map_drop,List.map_append,List.map_cons,List.map_nil]
  ·rw[if_neg hl]
   simp(disch:=first|assumption|omega|(with_reducible rfl)|(simp only[go_sem];done)|(simp only[go_sem];omega)|fail) only[↓reduceIte,↓AA,Nat.reduceAdd,go_sem,JA hi,JA h,Y6,ih (a+1) (by omega)]
theorem AFM {g:Fl} {l:List Msg} (hn:l.length≤500000):∀(n i:Nat) (out:List Msg),i+n=l.length→out.length=i→
 JQ (.lst 108 g (l.map AV)) (.lst 108 .own (out.map AV)) (.int .i64 (i:Int))=some (.lst 108 .sh ((JB (l.drop i) out).map AV),[]):=by
 intro n
 induction n with
 |zero=>
  intro i out hi ho
  rw[NP,List.drop_eq_nil_of_le (by omega),JB]
  simp(disch:=first|assumption|omega|(with_reducible rfl)|(simp only[go_sem];done)|(simp only[go_sem];omega)|fail) only[↓reduceIte,↓AA,Nat.reduceAdd,go_sem]
 |succ n ih=>
  intro i out hi ho
  have h:i<l.length:=by omega
  rw[NP,List.drop_eq_getElem_cons h,JB]
  have e:=AFL (g:=g) h (by omega) out (by omega) 0 out.length 0 (by omega)
  have e2:=ih (i+1) (TQ l[i] out) (by omega) (by rw[ACr];omega)
  rw[getD_lt h]at e
  rw[TQ]at e2
  simp(disch:=first|assumption|omega|(with_reducible rfl)|(simp only[go_sem];done)|(simp only[go_sem];omega)|fail) only[↓reduceIte,↓AA,Nat.reduceAdd,go_sem]
  exact e.trans e2
theorem Oi {f:Fl} {l:List Msg} (hn:l.length≤500000):Cl 108 [.lst 108 f (l.map AV)] []=some (.lst 108 .sh ((Bl l).map AV),[]):=by
 have:=AFM (g:=f) hn l.length 0 [] (by omega) rfl
 rw[List.drop_zero,VQ]at this
 rw[AEB]
 simp(disch:=first|assumption|omega|(with_reducible rfl)|(simp only[go_sem];done)|(simp only[go_sem];omega)|fail) only[↓reduceIte,↓AA,Nat.reduceAdd,go_sem]
 exact this
end
section
open Go AM
theorem MR {l:List (List UInt8)} {i:Nat} (h:i<l.length):(l.map V.str)[i]?=some (.str l[i]):=by simp[h]
theorem Oj {s:List UInt8} (h:s.length≤2000000000):Cl 52 [.str s] []=some (.str (DU s),[]):=by
 have nl:=Ac 10 s.length
 have c:F9 .u64 (.int .i64 (s.length:Int))=some (.int .u64 (s.length:Int)):=cvI_u64 (by omega) (by omega)
 have n:=DZ (n:=s.length) (by omega)
 have ad:AO .add (.str (Aa s.length)) (.str s)=some (.str (Aa s.length++s)):=by
  simp only[AO];rw[if_pos (by simp only[Aa];omega)]
 rw[AHV,DU]
 (repeat' with_reducible first|refine(Aq _ _).trans ?_|refine(Au _ _).trans ?_|refine(AA _ _).trans ?_|((first|(refine' (AB ?_ _).trans ?_;rotate_left)|refine(if_pos ?_).trans ?_|refine(AZ ?_ _ _).trans ?_);focus (first|rfl|(simp(disch:=first|assumption|omega|with_reducible rfl|(simp only[go_sem]<;>omega)|fail) only[↓reduceIte,↓AA,Nat.reduceAdd,go_sem,Bool.not_true,Bool.not_false,c,n,ad]<;>first|rfl|omega)|assumption|omega))|(refine(AQ ?_ _ _).trans ?_;focus (first|(simp(disch:=first|assumption|omega|with_reducible rfl|(simp only[go_sem]<;>omega)|fail) only[↓reduceIte,↓AA,Nat.reduceAdd,go_sem,Bool.not_true,Bool.not_false,c,n,ad]<;>omega)|assumption|omega))|fail)
 rfl
theorem ET {a b:List UInt8} (h:a.length+b.length≤4000000000):AO .add (.str a) (.str b)=some (.str (a++b)):=by
 simp only[AO];rw[if_pos (by omega)]
theorem ACs {l:List Msg} (hl:∀m∈l,Z9 m) (hn:l.length≤500000):∀(n i:Nat),i+n=l.length→
 NK (.lst 108 .sh (l.map AV)) (.lst 9 .own (((l.take i).map rowB).map V.str)) (.int .i64 (i:Int))=some (sL .sh (l.map rowB),[]):=by
 intro n
 induction n with
 |zero=>
  intro i hi
  rw[List.take_of_length_le (by omega),QV]
  (repeat' with_reducible first|refine(Aq _ _).trans ?_|refine(Au _ _).trans ?_|refine(AA _ _).trans ?_|((first|(refine' (AB ?_ _).trans ?_;rotate_left)|refine(if_pos ?_).trans ?_|refine(AZ ?_ _ _).trans ?_);focus (first|rfl|(simp(disch:=first|assumption|omega|with_reducible rfl|(simp only[go_sem]<;>omega)|fail) only[↓reduceIte,↓AA,Nat.reduceAdd,go_sem,Bool.not_true,Bool.not_false]<;>first|rfl|omega)|assumption|omega))|(refine(AQ ?_ _ _).trans ?_;focus (first|(simp(disch:=first|assumption|omega|with_reducible rfl|(simp only[go_sem]<;>omega)|fail) only[↓reduceIte,↓AA,Nat.reduceAdd,go_sem,Bool.not_true,Bool.not_false]<;>omega)|assumption|omega))|fail)
  rfl
 |succ n ih=>
  intro i hi
  have h:i<l.length:=by omega
  have hm:=hl _ (List.getElem_mem h)
  have ih':=ih (i+1) (by omega)
  rw[←List.take_append_getElem h,List.map_append,List.map_append,List.map_cons,List.map_nil,List.map_cons,List.map_nil]at ih'
  have ad:AO .add (.int .i64 (i:Int)) (.int .i64 1)=some (.int .i64 ((i+1:Nat):Int)):=by
   rw[Dp,wrap_i64 (by omega) (by omega)];rfl
  have hle:((l.take i).map rowB).length≤500000:=by rw[List.length_map,List.length_take];omega
  obtain⟨h1,h2,h3⟩:=hm
  have at_:(l.map AV)[i]?=some (.agg 107 [.int .i64 l[i].fr,.int .i64 l[i].to,.int .i64 l[i].val]):=XH h
  have hL:(l.map AV).length=l.length:=by simp
  rw[←ih',QV]
  clear ih ih' hl
  generalize l.map AV=L at*
  generalize (l.take i).map rowB=A at*
  generalize l[i]=m at*
  generalize (i+1:Nat)=j at*
  by_cases c1:m.fr<0
  ·have l1:AO .lss (.int .i64 m.fr) (.int .i64 0)=some (.bool true):=by rw[b_lss,decide_eq_true c1]
   rw[rowB,if_pos (Or.inl c1)]
   (repeat' with_reducible first|refine(Aq _ _).trans ?_|refine(Au _ _).trans ?_|refine(AA _ _).trans ?_|((first|(refine' (AB ?_ _).trans ?_;rotate_left)|refine(if_pos ?_).trans ?_|refine(AZ ?_ _ _).trans ?_);focus (first|rfl|(simp(disch:=first|assumption|omega|with_reducible rfl|(simp only[go_sem]<;>omega)|fail) only[↓reduceIte,↓AA,Nat.reduceAdd,go_sem,Bool.not_true,Bool.not_false,at_,l1,ad]<;>first|rfl|omega)|assumption|omega))|(refine(AQ ?_ _ _).trans ?_;focus (first|(simp(disch:=first|assumption|omega|with_reducible rfl|(simp only[go_sem]<;>omega)|fail) only[↓reduceIte,↓AA,Nat.reduceAdd,go_sem,Bool.not_true,Bool.not_false,at_,l1,ad]<;>omega)|assumption|omega))|fail)
   rfl
  ·have l1:AO .lss (.int .i64 m.fr) (.int .i64 0)=some (.bool false):=by rw[b_lss,decide_eq_false c1]
   by_cases c2:m.to<0
   ·have l2:AO .lss (.int .i64 m.to) (.int .i64 0)=some (.bool true):=by rw[b_lss,decide_eq_true c2]
    rw[rowB,if_pos (Or.inr c2)]
    (repeat' with_reducible first|refine(Aq _ _).trans ?_|refine(Au _ _).trans ?_|refine(AA _ _).trans ?_|((first|(refine' (AB ?_ _).trans ?_;rotate_left)|refine(if_pos ?_).trans ?_|refine(AZ ?_ _ _).trans ?_);focus (first|rfl|(simp(disch:=first|assumption|omega|with_reducible rfl|(simp only[go_sem]<;>omega)|fail) only[↓reduceIte,↓AA,Nat.reduceAdd,go_sem,Bool.not_true,Bool.not_false,at_,l1,l2,ad]<;>first|rfl|omega)|assumption|omega))|(refine(AQ ?_ _ _).trans ?_;focus (first|(simp(disch:=first|assumption|omega|with_reducible rfl|(simp only[go_sem]<;>omega)|fail) only[↓reduceIte,↓AA,Nat.reduceAdd,go_sem,Bool.not_true,Bool.not_false,at_,l1,l2,ad]<;>omega)|assumption|omega))|fail)
    rfl
   ·have l2:AO .lss (.int .i64 m.to) (.int .i64 0)=some (.bool false):=by rw[b_lss,decide_eq_false c2]
    have v1:F9 .u64 (.int .i64 m.fr)=some (.int .u64 (m.fr.toNat:Int)):=by
     obtain⟨x,hx⟩:=Int.eq_ofNat_of_zero_le (show 0≤m.fr by omega)
     rw[hx,Int.toNat_natCast];exact cvI_u64 (by omega) (by have:=h1.2;omega)
    have v2:F9 .u64 (.int .i64 m.to)=some (.int .u64 (m.to.toNat:Int)):=by
     obtain⟨x,hx⟩:=Int.eq_ofNat_of_zero_le (show 0≤m.to by omega)
     rw[hx,Int.toNat_natCast];exact cvI_u64 (by omega) (by have:=h2.2;omega)
    have n1:=DZ (n:=m.fr.toNat) (by have:=h1.2;omega)
    have n2:=DZ (n:=m.to.toNat) (by have:=h2.2;omega)
    have n3:=AFG h3
    have a:=Ac 10 m.fr.toNat;have b:=Ac 10 m.to.toNat;have c:=Ac 10 (KC m.val)
    have a1:AO .add (.str (Aa m.fr.toNat)) (.str (Aa m.to.toNat))=some (.str (Aa m.fr.toNat++Aa m.to.toNat)):=ET (by simp only[Aa];omega)
    have a2:AO .add (.str (Aa m.fr.toNat++Aa m.to.toNat)) (.str (Aa (KC m.val)))=some (.str (Aa m.fr.toNat++Aa m.to.toNat++Aa (KC m.val))):=ET (by rw[List.length_append];simp only[Aa];omega)
    rw[rowB,if_neg (by omega)]
    generalize Aa m.fr.toNat++Aa m.to.toNat++Aa (KC m.val)=R at*
    generalize Aa m.fr.toNat++Aa m.to.toNat=R2 at*
    generalize Aa m.fr.toNat=x1 at*
    generalize Aa m.to.toNat=x2 at*
    generalize Aa (KC m.val)=x3 at*
    (repeat' with_reducible first|refine(Aq _ _).trans ?_|refine(Au _ _).trans ?_|refine(AA _ _).trans ?_|((first|(refine' (AB ?_ _).trans ?_;rotate_left)|refine(if_pos ?_).trans ?_|refine(AZ ?_ _ _).trans ?_);focus (first|rfl|(simp(disch:=first|assumption|omega|with_reducible rfl|(simp only[go_sem]<;>omega)|fail) only[↓reduceIte,↓AA,Nat.reduceAdd,go_sem,Bool.not_true,Bool.not_false,at_,l1,l2,v1,v2,n1,n2,n3,a1,a2,ad]<;>first|rfl|omega)|assumption|omega))|(refine(AQ ?_ _ _).trans ?_;focus (first|(simp(disch:=first|assumption|omega|with_reducible rfl|(simp only[go_sem]<;>omega)|fail) only[↓reduceIte,↓AA,Nat.reduceAdd,go_sem,Bool.not_true,Bool.not_false,at_,l1,l2,v1,v2,n1,n2,n3,a1,a2,ad]<;>omega)|assumption|omega))|fail)
    rfl
theorem ACt {f:Fl} {l:List Msg} (hl:∀m∈l,Z9 m) (hn:l.length≤500000):Cl 76 [.lst 108 f (l.map AV)] []=some (sL .sh (EP l),[]):=by
 have st:Cl 108 [.lst 108 .sh (l.map AV)] []=_:=Oi (f:= .sh) hn
 have h:=ACs (l:=Bl l) (fun m hm=>hl m (Qw.1 hm)) (by rw[CU];exact hn) (Bl l).length 0 (by omega)
 have rf:AL [] [V.lst 108 f (l.map AV)]=[V.lst 108 .sh (l.map AV)]∨f= .lent:=by cases f<;>first|exact Or.inl rfl|exact Or.inr rfl
 rw[List.take_zero,List.map_nil,List.map_nil]at h
 rw[EP,←h,AHh]
 have rf:AL [] [V.lst 108 f (l.map AV)]=[V.lst 108 .sh (l.map AV)]∨AL [] [V.lst 108 f (l.map AV)]=[V.lst 108 .lent (l.map AV)]:=by
  cases f<;>first|exact Or.inl rfl|(refine Or.inr ?_;simp only[AL,V.reify,KE])
 have st2:Cl 108 [.lst 108 .lent (l.map AV)] []=_:=Oi (f:= .lent) hn
 clear h hl
 generalize (Bl l).map AV=S at*
 generalize l.map AV=L at*
 rcases rf with rf|rf
 ·rw[rf]
  (repeat' with_reducible first|refine(Aq _ _).trans ?_|refine(Au _ _).trans ?_|refine(AA _ _).trans ?_|((first|(refine' (AB ?_ _).trans ?_;rotate_left)|refine(if_pos ?_).trans ?_|refine(AZ ?_ _ _).trans ?_);focus (first|rfl|(simp(disch:=first|assumption|omega|with_reducible rfl|(simp only[go_sem]<;>omega)|fail) only[↓reduceIte,↓AA,Nat.reduceAdd,go_sem,Bool.not_true,Bool.not_false,st]<;>first|rfl|omega)|assumption|omega))|(refine(AQ ?_ _ _).trans ?_;focus (first|(simp(disch:=first|assumption|omega|with_reducible rfl|(simp only[go_sem]<;>omega)|fail) only[↓reduceIte,↓AA,Nat.reduceAdd,go_sem,Bool.not_true,Bool.not_false,st]<;>omega)|assumption|omega))|fail)
  rfl
 ·rw[rf]
  (repeat' with_reducible first|refine(Aq _ _).trans ?_|refine(Au _ _).trans ?_|refine(AA _ _).trans ?_|((first|(refine' (AB ?_ _).trans ?_;rotate_left)|refine(if_pos ?_).trans ?_|refine(AZ ?_ _ _).trans ?_);focus (first|rfl|(simp(disch:=first|assumption|omega|with_reducible rfl|(simp only[go_sem]<;>omega)|fail) only[↓reduceIte,↓AA,Nat.reduceAdd,go_sem,Bool.not_true,Bool.not_false,st2]<;>first|rfl|omega)|assumption|omega))|(refine(AQ ?_ _ _).trans ?_;focus (first|(simp(disch:=first|assumption|omega|with_reducible rfl|(simp only[go_sem]<;>omega)|fail) only[↓reduceIte,↓AA,Nat.reduceAdd,go_sem,Bool.not_true,Bool.not_false,st2]<;>omega)|assumption|omega))|fail)
  rfl
theorem AFN {rs:List (List UInt8)} (hr:∀r∈rs,r.length≤30) (hn:rs.length≤500000):∀(n i:Nat) (s:List UInt8),i+n=rs.length→s.length≤10+40*i→
 SH (.str s) (.lst 9 .sh (rs.map V.str)) (.int .i64 (i:Int))=some (.str (s++((rs.drop i).map DU).flatten),[]):=by
 intro n
 induction n with
 |zero=>
  intro i s hi hs
  rw[List.drop_eq_nil_of_le (by omega),List.map_nil,List.flatten_nil,List.append_nil,QS]
  (repeat' with_reducible first|refine(Aq _ _).trans ?_|refine(Au _ _).trans ?_|refine(AA _ _).trans ?_|((first|(refine' (AB ?_ _).trans ?_;rotate_left)|refine(if_pos ?_).trans ?_|refine(AZ ?_ _ _).trans ?_);focus (first|rfl|(simp(disch:=first|assumption|omega|with_reducible rfl|(simp only[go_sem]<;>omega)|fail) only[↓reduceIte,↓AA,Nat.reduceAdd,go_sem,Bool.not_true,Bool.not_false]<;>first|rfl|omega)|assumption|omega))|(refine(AQ ?_ _ _).trans ?_;focus (first|(simp(disch:=first|assumption|omega|with_reducible rfl|(simp only[go_sem]<;>omega)|fail) only[↓reduceIte,↓AA,Nat.reduceAdd,go_sem,Bool.not_true,Bool.not_false]<;>omega)|assumption|omega))|fail)
  rfl
 |succ n ih=>
  intro i s hi hs
  have h:i<rs.length:=by omega
  have hx:=hr _ (List.getElem_mem h)
  have nl:=Ac 10 rs[i].length
  have tl:(DU rs[i]).length≤40:=by rw[DU,List.length_append];simp only[Aa];omega
  have ih':=ih (i+1) (s++DU rs[i]) (by omega) (by rw[List.length_append];omega)
  have tx:=Oj (s:=rs[i]) (by omega)
  have a1:AO .add (.str s) (.str (DU rs[i]))=some (.str (s++DU rs[i])):=ET (by omega)
  have ad:AO .add (.int .i64 (i:Int)) (.int .i64 1)=some (.int .i64 ((i+1:Nat):Int)):=by
   rw[Dp,wrap_i64 (by omega) (by omega)];rfl
  have at_:=MR h
  have hL:(rs.map V.str).length=rs.length:=by simp
  rw[List.drop_eq_getElem_cons h,List.map_cons,List.flatten_cons,←List.append_assoc,←ih',QS]
  clear ih ih' hr nl
  generalize rs[i]=r at*
  generalize (i+1:Nat)=j at*
  generalize rs.map V.str=L at*
  generalize s++DU r=s2 at*
  generalize DU r=t at*
  (repeat' with_reducible first|refine(Aq _ _).trans ?_|refine(Au _ _).trans ?_|refine(AA _ _).trans ?_|((first|(refine' (AB ?_ _).trans ?_;rotate_left)|refine(if_pos ?_).trans ?_|refine(AZ ?_ _ _).trans ?_);focus (first|rfl|(simp(disch:=first|assumption|omega|with_reducible rfl|(simp only[go_sem]<;>omega)|fail) only[↓reduceIte,↓AA,Nat.reduceAdd,go_sem,Bool.not_true,Bool.not_false,at_,tx,a1,ad]<;>first|rfl|omega)|assumption|omega))|(refine(AQ ?_ _ _).trans ?_;focus (first|(simp(disch:=first|assumption|omega|with_reducible rfl|(simp only[go_sem]<;>omega)|fail) only[↓reduceIte,↓AA,Nat.reduceAdd,go_sem,Bool.not_true,Bool.not_false,at_,tx,a1,ad]<;>omega)|assumption|omega))|fail)
  rfl
theorem AFO {f:Fl} {l:List Msg} (hf:f= .sh∨f= .own) (hl:∀m∈l,Z9 m) (hn:l.length≤500000):Cl 53 [.lst 108 f (l.map AV)] []=some (.str (FY l),[]):=by
 have rw_:=ACt (f:= .sh) hl hn
 have nl:=Ac 10 l.length
 have hp:=AFN (rs:=EP l) (fun r hr=>by
  obtain⟨m,_,rfl⟩:=List.mem_map.1 hr
  exact Oh m) (by rw[EP,List.length_map,CU];exact hn) (EP l).length 0 (Aa l.length) (by omega) (by simp only[Aa];omega)
 rw[List.drop_zero]at hp
 have n1:=DZ (n:=l.length) (by omega)
 have c:F9 .u64 (.int .i64 (l.length:Int))=some (.int .u64 (l.length:Int)):=cvI_u64 (by omega) (by omega)
 have ll:∀f:Fl,D8 (V.lst 108 f (l.map AV))=some (.int .i64 (l.length:Int)):=fun f=>by
  have:(l.map AV).length=l.length:=by simp
  rw[←this];rfl
 rw[FY,←hp,AHW]
 clear hp hl nl
 simp only[sL]at rw_
 generalize (EP l).map V.str=R at*
 generalize Aa l.length=x at*
 generalize (l.length:Int)=L0 at*
 generalize l.map AV=L at*
 have r1:AL [] [V.lst 108 .sh L]=[V.lst 108 .sh L]:=rfl
 have r2:AL [] [V.lst 108 .own L]=[V.lst 108 .sh L]:=rfl
 rcases hf with rfl|rfl
 ·(repeat' with_reducible first|refine(Aq _ _).trans ?_|refine(Au _ _).trans ?_|refine(AA _ _).trans ?_|((first|(refine' (AB ?_ _).trans ?_;rotate_left)|refine(if_pos ?_).trans ?_|refine(AZ ?_ _ _).trans ?_);focus (first|rfl|(simp(disch:=first|assumption|omega|with_reducible rfl|(simp only[go_sem]<;>omega)|fail) only[↓reduceIte,↓AA,Nat.reduceAdd,go_sem,Bool.not_true,Bool.not_false,ll,c,n1,r1,rw_]<;>first|rfl|omega)|assumption|omega))|(refine(AQ ?_ _ _).trans ?_;focus (first|(simp(disch:=first|assumption|omega|with_reducible rfl|(simp only[go_sem]<;>omega)|fail) only[↓reduceIte,↓AA,Nat.reduceAdd,go_sem,Bool.not_true,Bool.not_false,ll,c,n1,r1,rw_]<;>omega)|assumption|omega))|fail)
  rfl
 ·(repeat' with_reducible first|refine(Aq _ _).trans ?_|refine(Au _ _).trans ?_|refine(AA _ _).trans ?_|((first|(refine' (AB ?_ _).trans ?_;rotate_left)|refine(if_pos ?_).trans ?_|refine(AZ ?_ _ _).trans ?_);focus (first|rfl|(simp(disch:=first|assumption|omega|with_reducible rfl|(simp only[go_sem]<;>omega)|fail) only[↓reduceIte,↓AA,Nat.reduceAdd,go_sem,Bool.not_true,Bool.not_false,ll,c,n1,r2,rw_]<;>first|rfl|omega)|assumption|omega))|(refine(AQ ?_ _ _).trans ?_;focus (first|(simp(disch:=first|assumption|omega|with_reducible rfl|(simp only[go_sem]<;>omega)|fail) only[↓reduceIte,↓AA,Nat.reduceAdd,go_sem,Bool.not_true,Bool.not_false,ll,c,n1,r2,rw_]<;>omega)|assumption|omega))|fail)
  rfl
end
section
open Go AM
attribute [local irreducible] vrootB vtxB firstX
end
section
open Go AM
structure BkOk (b:Bk):Prop where
 gone:b.gone.length≤1000000
 roots:b.roots.length≤1000000
 known:b.known.length≤1000000
 each:∀k∈b.known,k.length≤1000000
 len:∀r∈b.roots,r.length=32
 sent:b.sent.length≤1000000
end
section
open Go AM
end
section
open Go AM
def Y8 (f:FuncId) (arg bx ix:V) (sT:TypeId) (n:Nat) (tS tE:TypeId) (v:Bool) (h:List V) (k:List V→Rv):Rv:=
 if(D9.pure f&& !D9.ext f&&decide ((D9.seq f).1=0))=true then
  (Cl f (AL h [arg]) []).bind fun r=>
   match r.1,bx,ix with
   | .lst e .own xs,.ref id p t',.int _ j=>(AM.boolsOf xs).bind fun bs=>(BA P sT n (.ref id p t')).bind fun a=>
     if(decide (0≤j)&&Nat.blt j.toNat bs.length&&BQ P tE (.bool v))=true then
      (Ht P h tS a (.lst e .own ((bs.set j.toNat v).map .bool))).bind fun h'=>k h'
     else none
   |_,_,_=>none
 else none
theorem AIo (t0 t1 t2 t3:V) (h:List V):Cl 57 [t0,t1,t2,t3] h=
 if((BJ 23) (V.weak t0)&&V.under (List.length h) (V.weak t0))=true then if((BJ 25) t1&&V.under (List.length (h++[(V.weak t0)])) t1)=true then if((BJ 32) (V.weak t2)&&V.under (List.length ((h++[(V.weak t0)])++[t1])) (V.weak t2))=true then(Cl 55 (AP [t3]) ((((h++[(V.weak t0)])++[t1])++[(V.weak t2)])++[(V.agg 32 [(V.int .i64 0),(V.lst 4 .nil []),(V.lst 55 .nil []),(V.lst 58 .nil []),(V.lst 108 .nil [])])])).bind fun r_1=>jn (fun t32_2 h_3=>
 V.ite t32_2
  (((ck [] [(V.int .i64 0),(V.lst 4 .nil []),(V.lst 55 .nil []),(V.lst 58 .nil []),(V.lst 108 .nil [])]).map (.agg 32)).bind fun t33_4=>(DR (BJ 32) 33 h_3 (V.ref (List.length (((h++[(V.weak t0)])++[t1])++[(V.weak t2)])) [] 33) t33_4).bind fun h_5=>(BI h_5 33 (V.ref (List.length (((h++[(V.weak t0)])++[t1])++[(V.weak t2)])) [] 33)).bind fun c_6=>if(List.all [(V.bool false),c_6] V.okE)=true then AY (List.length h) h_5 (V.tup [c_6,(V.bool false)])else none)
  ((BI h_3 24 (V.ref (List.length h) [] 24)).bind fun t35_7=>(Ae h_3 26 (V.ref (List.length (h++[(V.weak t0)])) [] 26)).bind fun t36_8=>(fA 33 28 1 (V.ref (List.length ((h++[(V.weak t0)])++[t1])) [] 33)).bind fun t37_9=>(BI h_3 28 t37_9).bind fun t38_10=>(D8 t38_10).bind fun t39_11=>(Cl 10 (AL h_3 [t35_7,t36_8,t39_11]) []).bind fun r_12=>(GU r_12.1 0).bind fun t41_13=>(ext r_12.1 1).bind fun t42_14=>(DR (BJ 32) 33 (h_3++[(V.agg 32 [(V.int .i64 0),(V.lst 4 .nil []),(V.lst 55 .nil []),(V.lst 58 .nil []),(V.lst 108 .nil [])])]) (V.ref (List.length h_3) [] 33) t41_13).bind fun h_15=>(fA 33 28 1 (V.ref (List.length ((h++[(V.weak t0)])++[t1])) [] 33)).bind fun t43_16=>(BI h_15 28 t43_16).bind fun t44_17=>Y8 80 t44_17 (V.ref (List.length h_3) [] 33) r_1.1 33 1 28 4 true h_15 fun h_24=>(BI h_24 33 (V.ref (List.length h_3) [] 33)).bind fun t51_25=>(DR (BJ 32) 33 h_24 (V.ref (List.length (((h++[(V.weak t0)])++[t1])++[(V.weak t2)])) [] 33) t51_25).bind fun h_26=>(BI h_26 33 (V.ref (List.length (((h++[(V.weak t0)])++[t1])++[(V.weak t2)])) [] 33)).bind fun c_27=>if(List.all [(V.bool true),c_27] V.okE)=true then AY (List.length h) h_26 (V.tup [c_27,(V.bool true)])else none)) (fun(k_28:V→List V→Rv)=>(Cl 86 (AP [t3]) r_1.2).bind fun r_29=>(AO .neq r_29.1 (V.int .i64 0)).bind fun t17_30=>V.ite t17_30 (k_28 (V.bool true) r_29.2) ((fA 33 28 1 (V.ref (List.length ((h++[(V.weak t0)])++[t1])) [] 33)).bind fun t20_31=>(BI r_29.2 28 t20_31).bind fun t21_32=>(D8 t21_32).bind fun t22_33=>(F9 .u64 t22_33).bind fun t23_34=>(AO .geq r_1.1 t23_34).bind fun t24_35=>V.ite t24_35 (k_28 (V.bool true) r_29.2) ((fA 33 28 1 (V.ref (List.length ((h++[(V.weak t0)])++[t1])) [] 33)).bind fun t27_36=>(BI r_29.2 28 t27_36).bind fun t28_37=>(Di 4 t28_37 r_1.1).bind fun t30_38=>(Ae r_29.2 4 t30_38).bind fun t31_39=>k_28 t31_39 r_29.2)))else none else none else none:=
  AGN (by kernel_rfl)
end
section
open Go AM
abbrev ANK:V:= .agg 54 (List.replicate 32 (.int .u8 0))
abbrev Y9:V:= .agg 59 [.int .i64 0,.int .i64 0,.agg 56 [.int .i64 0,.int .i64 0,ANK,.lst 55 .nil []],.lst 108 .nil [],.lst 9 .nil []]
def Ol:List UInt8:=[65,0]++(List.replicate 32 0++[0])++(List.replicate 32 0++[0])++[1,0]
theorem ANL (r0 r1:List UInt8) (k0 k1:List (List UInt8)):Cl 20 [vB ⟨0,[false,false],[r0,r1],[k0,k1],[]⟩,.int .i64 1] []=some (.tup [.str [69,1],.int .i64 0],[]):=Cj.2 ⟨60,by kernel_rfl⟩
theorem ANM (r0 r1:List UInt8) (k0 k1:List (List UInt8)):Cl 17 [vB ⟨0,[false,false],[r0,r1],[k0,k1],[]⟩,.lst 60 .sh [Y9,Y9]] []=some (.tup [.str Ol,.int .i64 0],[]):=Cj.2 ⟨60,by kernel_rfl⟩
def j0:Job:=⟨[109,97,120],0,2⟩
def g0:Grf:=⟨2,[]⟩
def Dk (g1:Bool) (r0 r1:List UInt8) (k0 k1:List (List UInt8)):Bk:=⟨0,[false,g1],[r0,r1],[k0,k1],[]⟩
def bk1 (g1:Bool):Bk:=⟨1,[false,g1],[List.replicate 32 0,List.replicate 32 0],[[],[]],[]⟩
abbrev WJ:V:=GR .nil .nil .nil .nil zB
theorem ANN (g1:Bool) (r0 r1 p0 p1:List UInt8) (k0 k1 q0 q1:List (List UInt8)):Cl 56 [vJ j0,vB (Dk g1 r0 r1 k0 k1),Zk 5] [vG .sh g0,vJ j0,vB (Dk g1 r0 r1 k0 k1),WJ,vB (Dk false p0 p1 q0 q1),OG Ol.tail 0,WJ]=some (.tup [vB (bk1 g1),.bool true],[vG .sh g0,vJ j0,vB (Dk g1 r0 r1 k0 k1),WJ,vB (Dk false p0 p1 q0 q1),OG [] 0,WJ]):=Cj.2 ⟨60,by kernel_rfl⟩
theorem ANO (a b:Bool):Cl 80 [.lst 4 .sh [.bool a,.bool b]] []=some (.lst 4 .own [.bool a,.bool b],[]):=Cj.2 ⟨60,by kernel_rfl⟩
theorem AK8:Qs g0 j0 2=true:=by decide+kernel
theorem nb0:∃p0 p1 q0 q1,Z5 g0 j0 2=Dk false p0 p1 q0 q1:=⟨vrootB (FP g0 j0 2 0),vrootB (FP g0 j0 2 1),(FP g0 j0 2 0).map vtxB,(FP g0 j0 2 1).map vtxB,by simp[Z5,Dk,List.range_succ,List.replicate]⟩
theorem ANP (h0 h1 h2 h3 h4 h5 h6 h7 h8 h9 h10 x0 x2 x3 x4:V) (k:List V→Rv):
 Y8 80 (.lst 4 .sh [.bool false,.bool false]) (.ref 11 [] 33) (.int .u64 1) 33 1 28 4 true [h0,h1,h2,h3,h4,h5,h6,h7,h8,h9,h10,.agg Zz [x0,.lst 4 .sh [.bool false,.bool false],x2,x3,x4]] k=
  k [h0,h1,h2,h3,h4,h5,h6,h7,h8,h9,h10,.agg Zz [x0,.lst 4 .own [.bool false,.bool true],x2,x3,x4]]:=by
 unfold Y8
 rw[if_pos (by kernel_rfl),show AL _ [V.lst 4 .sh [.bool false,.bool false]]=[V.lst 4 .sh [.bool false,.bool false]]from rfl,ANO]
 rfl
end
section
open Go AM
abbrev zBK:V:= .agg Zz [.int .i64 0,.lst 4 .nil [],.lst 55 .nil [],.lst 58 .nil [],.lst 108 .nil []]
end
section
open Go AM
theorem ACu {b:Bk} (hb:BkOk b):∀(n i:Nat) (f:Fl),(f= .own∨f= .nil)→i+n=b.known.length→
 Rw (.ref 0 [] 33) (.ref 1 [] 33) (.ref 2 [] 33) (.int .i64 (i:Int)) [vB b,zBK,.agg Zz [.int .i64 b.step,.lst 4 .sh (b.gone.map V.bool),.lst 55 .sh (b.roots.map BB),.lst 58 f ((b.known.take i).map sS),.lst 108 .sh (b.sent.map AV)]]=some (vB b,[]):=by
 have hk:=hb.known
 intro n
 induction n with
 |zero=>
  intro i f hf hi
  rw[List.take_of_length_le (by omega),QJ]
  rcases hf with rfl|rfl
  all_goals simp(disch:=first|assumption|omega|(with_reducible rfl)|(simp only[go_sem];done)|(simp only[go_sem];omega)|fail) only[↓reduceIte,↓AA,Nat.reduceAdd,go_sem]
  all_goals rfl
 |succ n ih=>
  intro i f hf hi
  have h:i<b.known.length:=by omega
  have hx:(b.known.map sS)[i]?=some (sS b.known[i]):=by simp[h]
  have he:=hb.each _ (List.getElem_mem h)
  have ih':=ih (i+1) .own (Or.inl rfl) (by omega)
  have hle:(b.known.take i).length≤1000000:=by rw[List.length_take];omega
  rw[←List.take_append_getElem h,List.map_append]at ih'
  clear ih
  generalize b.known.take i=done at*
  generalize b.known[i]=x at*
  simp only[List.map_cons,List.map_nil]at ih'
  have t2:∀(a z x0 x1 x2 x4:V) (rs:List V) (f:Fl),BR [a,z,.agg Zz [x0,x1,x2,.lst 58 f rs,x4]] 30 (.ref 2 [3] 30)=some (.lst 58 f rs,[a,z,.agg Zz [x0,x1,x2,.lst 58 f.wk rs,x4]]):=
   fun a z x0 x1 x2 x4 rs f=>Oe (h:=[a,z,.agg Zz [x0,x1,x2,.lst 58 f rs,x4]]) (id:=2) rfl rfl
  have ap:∀h:List V,GK 9 AM.tyS false h (.lst 9 .own []) (sS x)=some (.lst 9 .own ([]++x.map V.str)):=fun h=>
   H7 (V.PFL _ (JX x)).clean (all_map (fun _=>rfl) _) (by simp;omega) _ _ _
  have w1:V.weak (.lst 9 .own ([]++x.map V.str))=sS x:=by rw[List.nil_append];rfl
  have lw1:J3 true [.rop 58 (sS x)]=true:=rfl
  have lw2:J3 true [.lst 9 .own [],sS x]=true:=rfl
  have sb3:IW (.ref 2 [] 33) (.ref 2 [3] 30)=true:=rfl
  have sb0:IW (.ref 0 [] 33) (.ref 0 [3] 30)=true:=rfl
  have df:Tv (.ref 2 [] 33) (.ref 0 [] 33)=true:=rfl
  rw[←ih',QJ]
  rcases hf with rfl|rfl
  all_goals simp(disch:=first|assumption|omega|(with_reducible rfl)|(simp only[go_sem];done)|(simp only[go_sem];omega)|fail) only[↓reduceIte,↓AA,Nat.reduceAdd,go_sem,hx,t2,ap,w1,lw1,lw2,sb3,sb0,df,ACO,ACP]
  all_goals rfl
theorem ACv {b:Bk} (hb:BkOk b):Cl 18 [vB b] []=some (vB b,[]):=by
 have h0:=ACu hb b.known.length 0 .nil (Or.inr rfl) (by omega)
 rw[List.take_zero,List.map_nil]at h0
 have h1:=hb.gone;have h2:=hb.roots;have h3:=hb.sent
 rw[←h0,AHD]
 have lw1:∀(t:TypeId) (xs:List V),J3 true [.lst t .own [],.lst t .sh xs]=true:=fun _ _=>rfl
 have ap1:∀h:List V,GK 4 AM.tyB false h (.lst 4 .own []) (.lst 4 .sh (b.gone.map V.bool))=some (.lst 4 .own ([]++b.gone.map V.bool)):=fun h=>
  H7 (V.PFL _ (Qu b.gone)).clean (Z4 b.gone) (by simp;omega) _ _ _
 have ap2:∀h:List V,GK 55 (BJ 54) false h (.lst 55 .own []) (.lst 55 .sh (b.roots.map BB))=some (.lst 55 .own ([]++b.roots.map BB)):=fun h=>
  H7 (V.PFL _ (IA b.roots)).clean (all_map (fun _=>Gj ..) _) (by simp;omega) _ _ _
 have ap3:∀h:List V,GK 108 (BJ 107) false h (.lst 108 .own []) (.lst 108 .sh (b.sent.map AV))=some (.lst 108 .own ([]++b.sent.map AV)):=fun h=>
  H7 (V.PFL _ (FW b.sent)).clean (Ob _) (by simp;omega) _ _ _
 simp(disch:=first|assumption|omega|(with_reducible rfl)|(simp only[go_sem];done)|(simp only[go_sem];omega)|fail) only[↓reduceIte,↓AA,Nat.reduceAdd,go_sem,ap1,ap2,ap3,lw1]
 rfl
def FZ (b:Bk) (w:Int):Bool:=decide (0≤w)&&decide (b.gone[w.toNat]?=some false)
theorem AAA {b:Bk} (hb:b.gone.length≤1000000) (w:Int):Cl 20 [vB b,.int .i64 w] []=some (.tup [.str (if FZ b w=true then Aa 69++Aa w.toNat else[]),.int .i64 (if FZ b w=true then 0 else 170)],[]):=by
 by_cases h0:w<0
 ·have hm:FZ b w=false:=by rw[FZ,decide_eq_false (by omega)];rfl
  rw[hm,Ry]
  simp(disch:=first|assumption|omega|(with_reducible rfl)|(simp only[go_sem];done)|(simp only[go_sem];omega)|fail) only[↓reduceIte,↓AA,Nat.reduceAdd,go_sem]
  rfl
 obtain⟨v,rfl⟩:=Int.eq_ofNat_of_zero_le (show 0≤w by omega)
 by_cases hw:v<b.gone.length
 ·have hx:(b.gone.map V.bool)[v]?=some (.bool b.gone[v]):=by simp[hw]
  cases hg:b.gone[v]with
  |true=>
   have hm:FZ b (v:Int)=false:=by rw[FZ,Int.toNat_natCast,List.getElem?_eq_getElem hw,hg];simp
   rw[hg]at hx
   rw[hm,Ry]
   simp(disch:=first|assumption|omega|(with_reducible rfl)|(simp only[go_sem];done)|(simp only[go_sem];omega)|fail) only[↓reduceIte,↓AA,Nat.reduceAdd,go_sem,hx]
   rfl
  |false=>
   have hm:FZ b (v:Int)=true:=by rw[FZ,Int.toNat_natCast,List.getElem?_eq_getElem hw,hg];simp
   rw[hg]at hx
   have a:=Ac 10 69
   have n1:=FU [vB b]
   have n2:Cl 46 [BK 1,.int .u64 69] [vB b,Ar .nil []]=some (.tup [],[vB b,Ar .own ([]++Aa 69)]):=Cm (n:=69) (id:=1) rfl (Or.inr rfl) (by omega) (by simp)
   have n3:Cl 46 [BK 1,.int .u64 (v:Int)] [vB b,Ar .own ([]++Aa 69)]=some (.tup [],[vB b,Ar .own ([]++Aa 69++Aa v)]):=Cm (id:=1) rfl (Or.inl rfl) (by omega) (by simp only[Aa,List.length_append,List.length_nil];omega)
   have n4:Cl 50 [BK 1] [vB b,Ar .own ([]++Aa 69++Aa v)]=some (.str ([]++Aa 69++Aa v),[vB b,Ar .own ([]++Aa 69++Aa v)]):=Ee (id:=1) rfl
   rw[List.nil_append]at n2 n3 n4
   rw[hm,Ry]
   simp only[BK,List.length_cons,List.length_nil,if_true,Int.toNat_natCast]at n1 n2 n3 n4⊢
   generalize Aa 69=c at*
   generalize Aa v=d at*
   have nr:∀k x,AP [V.ref 1 [] 125,.int k x]=[V.ref 1 [] 125,.int k x]:=fun _ _=>rfl
   have nr1:AP [V.ref 1 [] 125]=[V.ref 1 [] 125]:=rfl
   simp(disch:=first|assumption|omega|(with_reducible rfl)|(simp only[go_sem];done)|(simp only[go_sem];omega)|fail) only[↓reduceIte,↓AA,Nat.reduceAdd,go_sem,hx,n1,n2,n3,n4,nr,nr1]
 ·have hm:FZ b (v:Int)=false:=by rw[FZ,Int.toNat_natCast,List.getElem?_eq_none (by omega)];simp
  rw[hm,Ry]
  simp(disch:=first|assumption|omega|(with_reducible rfl)|(simp only[go_sem];done)|(simp only[go_sem];omega)|fail) only[↓reduceIte,↓AA,Nat.reduceAdd,go_sem]
  rfl
end
section
open Go AM
structure Vd where
 err:Int
 pl:Int
 wk:Int
 st:Int
 root:List UInt8
 bt:List (List UInt8)
 sent:List Msg
 known:List (List UInt8)
abbrev tVd:TypeId:=59
abbrev tCo:TypeId:=56
def BO (v:Vd):V:= .agg tVd [.int .i64 v.err,.int .i64 v.pl,.agg tCo [.int .i64 v.wk,.int .i64 v.st,BB v.root,.lst 55 .sh (v.bt.map BB)],.lst 108 .sh (v.sent.map AV),sS v.known]
theorem ACM {x:V} {l:List V} (h:x.pl=true) (k:Fj l=true):Fj (x::l)=true:=by simp only[Fj,h,k,Bool.and_self]
@[go_sem] theorem KF (v:Vd):(BO v).pl=true:=by
  have e:(sS v.known).pl=true:=by simp only[sS,V.pl,JX]
  simp only[BO,V.pl,Fj,IA,FW,e,I8,Bool.and_self,Bool.true_and,Bool.and_true]
@[go_sem] theorem ZA (l:List Vd):Fj (l.map BO)=true:=DK KF l
@[go_sem] theorem ZB (v:Vd):BJ tVd (BO v)=true:=Gj ..
theorem AFP (l:List Vd):(l.map BO).all (BJ tVd)=true:=all_map (fun _=>Gj ..) l
@[go_sem] theorem VS (v:Vd):(BO v).weak=BO v:=(V.PF _ (KF v)).weak
@[go_sem] theorem AK9 (v:Vd):(BO v).norm=BO v:=(V.PF _ (KF v)).norm
@[go_sem] theorem AAB (h:List V) (v:Vd):(BO v).reify h=BO v:=(V.PF _ (KF v)).reify h
theorem VT {l:List Vd} {i:Nat} (h:i<l.length):(l.map BO)[i]?=some (BO l[i]):=by simp[h]
abbrev lVd (l:List Vd):V:= .lst 60 .sh (l.map BO)
theorem TR (a b:Nat):decide ((a:Int)≤(b:Int))=decide (a≤b):=by rw[Bool.eq_iff_iff,decide_eq_true_eq,decide_eq_true_eq];omega
theorem Ie {e:TypeId} {f:Fl} {xs:List V} {i:Nat} {x:V} (h:xs[i]?=some x):Di e (.lst e f xs) (.int .i64 (i:Int))=some (.rop e x):=by
 have:=Ql e f xs .i64 i
 rw[h]at this
 exact this
theorem Om (l:List (List UInt8)):D8 (sS l)=some (.int .i64 (l.length:Int)):=by
 have:(l.map V.str).length=l.length:=by simp
 rw[←this];rfl
theorem DF (t:TypeId) (f:Fl) {α:Type} (g:α→V) (l:List α):D8 (.lst t f (l.map g))=some (.int .i64 (l.length:Int)):=by
 have:(l.map g).length=l.length:=by simp
 rw[←this];rfl
def Jc (l:List (List UInt8)):Bool:=l.all (fun s=>decide (s.length≤300))&&decide (l.length≤12)
theorem ACx {l:List (List UInt8)} (hl:l.length<9223372036854775808):∀(n i:Nat),i+n=l.length→
 SB (sS l) (.int .i64 (i:Int))=some (.bool ((l.drop i).all (fun s=>decide (s.length≤300))&&decide (l.length≤12)),[]):=by
 intro n
 have hL:=Om l
 induction n with
 |zero=>
  intro i hi
  have ls:AO .lss (.int .i64 (i:Int)) (.int .i64 (l.length:Int))=some (.bool false):=by rw[b_lss,decide_eq_false (by omega)]
  have le:AO .leq (.int .i64 (l.length:Int)) (.int .i64 12)=some (.bool (decide (l.length≤12))):=by rw[b_leq];exact congrArg (fun b=>some (V.bool b)) (TR _ 12)
  rw[List.drop_eq_nil_of_le (by omega),List.all_nil,Bool.true_and,J5]
  generalize decide (l.length≤12)=b at*
  generalize (l.length:Int)=z at*
  generalize hs:sS l=L at*
  have w:L.weak=L:=by rw[←hs];rfl
  (repeat' with_reducible first|refine(Aq _ _).trans ?_|refine(Au _ _).trans ?_|refine(AA _ _).trans ?_|((first|(refine' (AB ?_ _).trans ?_;rotate_left)|refine(if_pos ?_).trans ?_|refine(AZ ?_ _ _).trans ?_);focus (first|rfl|(simp(disch:=first|assumption|omega|with_reducible rfl|(simp only[go_sem]<;>omega)|fail) only[↓reduceIte,↓AA,Nat.reduceAdd,go_sem,Bool.not_true,Bool.not_false,hL,ls,le,w]<;>first|rfl|omega)|assumption|omega))|(refine(AQ ?_ _ _).trans ?_;focus (first|(simp(disch:=first|assumption|omega|with_reducible rfl|(simp only[go_sem]<;>omega)|fail) only[↓reduceIte,↓AA,Nat.reduceAdd,go_sem,Bool.not_true,Bool.not_false,hL,ls,le,w]<;>omega)|assumption|omega))|fail)
  rfl
 |succ n ih=>
  intro i hi
  have h:i<l.length:=by omega
  have ls:AO .lss (.int .i64 (i:Int)) (.int .i64 (l.length:Int))=some (.bool true):=by rw[b_lss,decide_eq_true (by omega)]
  have ix:Di 9 (sS l) (.int .i64 (i:Int))=some (.rop 9 (.str l[i])):=Ie (f:= .sh) (MR h)
  have ad:AO .add (.int .i64 (i:Int)) (.int .i64 1)=some (.int .i64 ((i+1:Nat):Int)):=by rw[Dp,wrap_i64 (by omega) (by omega)];rfl
  have ih':=ih (i+1) (by omega)
  rw[List.drop_eq_getElem_cons h,List.all_cons]
  by_cases hx:l[i].length≤300
  ·have gt:AO .gtr (.int .i64 (l[i].length:Int)) (.int .i64 300)=some (.bool false):=by rw[b_gtr,decide_eq_false (by omega)]
   rw[decide_eq_true hx,Bool.true_and,←ih',J5]
   clear ih ih'
   generalize l[i]=x at*
   generalize (l.length:Int)=z at*
   generalize (i+1:Nat)=j at*
   generalize hs:sS l=L at*
   have w:L.weak=L:=by rw[←hs];rfl
   (repeat' with_reducible first|refine(Aq _ _).trans ?_|refine(Au _ _).trans ?_|refine(AA _ _).trans ?_|((first|(refine' (AB ?_ _).trans ?_;rotate_left)|refine(if_pos ?_).trans ?_|refine(AZ ?_ _ _).trans ?_);focus (first|rfl|(simp(disch:=first|assumption|omega|with_reducible rfl|(simp only[go_sem]<;>omega)|fail) only[↓reduceIte,↓AA,Nat.reduceAdd,go_sem,Bool.not_true,Bool.not_false,hL,ls,ix,ad,w,gt]<;>first|rfl|omega)|assumption|omega))|(refine(AQ ?_ _ _).trans ?_;focus (first|(simp(disch:=first|assumption|omega|with_reducible rfl|(simp only[go_sem]<;>omega)|fail) only[↓reduceIte,↓AA,Nat.reduceAdd,go_sem,Bool.not_true,Bool.not_false,hL,ls,ix,ad,w,gt]<;>omega)|assumption|omega))|fail)
   rfl
  ·have gt:AO .gtr (.int .i64 (l[i].length:Int)) (.int .i64 300)=some (.bool true):=by rw[b_gtr,decide_eq_true (by omega)]
   rw[decide_eq_false hx,Bool.false_and,Bool.false_and,J5]
   clear ih ih'
   generalize l[i]=x at*
   generalize (l.length:Int)=z at*
   generalize hs:sS l=L at*
   have w:L.weak=L:=by rw[←hs];rfl
   (repeat' with_reducible first|refine(Aq _ _).trans ?_|refine(Au _ _).trans ?_|refine(AA _ _).trans ?_|((first|(refine' (AB ?_ _).trans ?_;rotate_left)|refine(if_pos ?_).trans ?_|refine(AZ ?_ _ _).trans ?_);focus (first|rfl|(simp(disch:=first|assumption|omega|with_reducible rfl|(simp only[go_sem]<;>omega)|fail) only[↓reduceIte,↓AA,Nat.reduceAdd,go_sem,Bool.not_true,Bool.not_false,hL,ls,ix,w,gt]<;>first|rfl|omega)|assumption|omega))|(refine(AQ ?_ _ _).trans ?_;focus (first|(simp(disch:=first|assumption|omega|with_reducible rfl|(simp only[go_sem]<;>omega)|fail) only[↓reduceIte,↓AA,Nat.reduceAdd,go_sem,Bool.not_true,Bool.not_false,hL,ls,ix,w,gt]<;>omega)|assumption|omega))|fail)
   rfl
theorem VU {l:List (List UInt8)} (hl:l.length<9223372036854775808):Cl 27 [sS l] []=some (.bool (Jc l),[]):=by
 have h:=ACx hl l.length 0 (by omega)
 rw[List.drop_zero]at h
 rw[Jc,←h,AHF]
 rfl
def AAC (b:Bk):Bool:=b.known.all (fun k=>decide (k.length≤12)&&Jc k)&&(decide (b.gone.length≤8)&&(decide (b.roots.length≤8)&&(decide (b.known.length≤8)&&decide (b.sent.length≤20))))
theorem AFQ {b:Bk} (hk:b.known.length<9223372036854775808) (he:∀k∈b.known,k.length<9223372036854775808):∀(n i:Nat),i+n=b.known.length→
 Ro (.ref 0 [] 33) (.int .i64 (i:Int)) [vB b]=some (.bool ((b.known.drop i).all (fun k=>decide (k.length≤12)&&Jc k)&&(decide (b.gone.length≤8)&&(decide (b.roots.length≤8)&&(decide (b.known.length≤8)&&decide (b.sent.length≤20))))),[]):=by
 intro n
 have L1:=DF 4 .sh V.bool b.gone
 have L2:=DF 55 .sh BB b.roots
 have L3:=DF 58 .sh sS b.known
 have L4:=DF 108 .sh AV b.sent
 induction n with
 |zero=>
  intro i hi
  have ls:AO .lss (.int .i64 (i:Int)) (.int .i64 (b.known.length:Int))=some (.bool false):=by rw[b_lss,decide_eq_false (by omega)]
  have le:∀a c:Nat,AO .leq (.int .i64 (a:Int)) (.int .i64 (c:Int))=some (.bool (decide (a≤c))):=fun a c=>by rw[b_leq];exact congrArg (fun b=>some (V.bool b)) (TR a c)
  have l1:AO .leq (.int .i64 (b.gone.length:Int)) (.int .i64 8)=_:=le _ 8
  have l2:AO .leq (.int .i64 (b.roots.length:Int)) (.int .i64 8)=_:=le _ 8
  have l3:AO .leq (.int .i64 (b.known.length:Int)) (.int .i64 8)=_:=le _ 8
  have l4:AO .leq (.int .i64 (b.sent.length:Int)) (.int .i64 20)=_:=le _ 20
  rw[List.drop_eq_nil_of_le (by omega),List.all_nil,Bool.true_and,Hu]
  simp only[vB,GR]
  clear le
  generalize decide (b.gone.length≤8)=d1 at*
  generalize decide (b.roots.length≤8)=d2 at*
  generalize decide (b.known.length≤8)=d3 at*
  generalize decide (b.sent.length≤20)=d4 at*
  generalize (b.gone.length:Int)=z1 at*
  generalize (b.roots.length:Int)=z2 at*
  generalize (b.known.length:Int)=z3 at*
  generalize (b.sent.length:Int)=z4 at*
  generalize b.gone.map V.bool=a1 at*
  generalize b.roots.map BB=a2 at*
  generalize b.known.map sS=a3 at*
  generalize b.sent.map AV=a4 at*
  cases d1
  ·(repeat' with_reducible first|refine(Aq _ _).trans ?_|refine(Au _ _).trans ?_|refine(AA _ _).trans ?_|((first|(refine' (AB ?_ _).trans ?_;rotate_left)|refine(if_pos ?_).trans ?_|refine(AZ ?_ _ _).trans ?_);focus (first|rfl|(simp(disch:=first|assumption|omega|with_reducible rfl|(simp only[go_sem]<;>omega)|fail) only[↓reduceIte,↓AA,Nat.reduceAdd,go_sem,Bool.not_true,Bool.not_false,L1,L2,L3,L4,ls,l1]<;>first|rfl|omega)|assumption|omega))|(refine(AQ ?_ _ _).trans ?_;focus (first|(simp(disch:=first|assumption|omega|with_reducible rfl|(simp only[go_sem]<;>omega)|fail) only[↓reduceIte,↓AA,Nat.reduceAdd,go_sem,Bool.not_true,Bool.not_false,L1,L2,L3,L4,ls,l1]<;>omega)|assumption|omega))|fail)
   rfl
  cases d2
  ·(repeat' with_reducible first|refine(Aq _ _).trans ?_|refine(Au _ _).trans ?_|refine(AA _ _).trans ?_|((first|(refine' (AB ?_ _).trans ?_;rotate_left)|refine(if_pos ?_).trans ?_|refine(AZ ?_ _ _).trans ?_);focus (first|rfl|(simp(disch:=first|assumption|omega|with_reducible rfl|(simp only[go_sem]<;>omega)|fail) only[↓reduceIte,↓AA,Nat.reduceAdd,go_sem,Bool.not_true,Bool.not_false,L1,L2,L3,L4,ls,l1,l2]<;>first|rfl|omega)|assumption|omega))|(refine(AQ ?_ _ _).trans ?_;focus (first|(simp(disch:=first|assumption|omega|with_reducible rfl|(simp only[go_sem]<;>omega)|fail) only[↓reduceIte,↓AA,Nat.reduceAdd,go_sem,Bool.not_true,Bool.not_false,L1,L2,L3,L4,ls,l1,l2]<;>omega)|assumption|omega))|fail)
   rfl
  cases d3
  ·(repeat' with_reducible first|refine(Aq _ _).trans ?_|refine(Au _ _).trans ?_|refine(AA _ _).trans ?_|((first|(refine' (AB ?_ _).trans ?_;rotate_left)|refine(if_pos ?_).trans ?_|refine(AZ ?_ _ _).trans ?_);focus (first|rfl|(simp(disch:=first|assumption|omega|with_reducible rfl|(simp only[go_sem]<;>omega)|fail) only[↓reduceIte,↓AA,Nat.reduceAdd,go_sem,Bool.not_true,Bool.not_false,L1,L2,L3,L4,ls,l1,l2,l3]<;>first|rfl|omega)|assumption|omega))|(refine(AQ ?_ _ _).trans ?_;focus (first|(simp(disch:=first|assumption|omega|with_reducible rfl|(simp only[go_sem]<;>omega)|fail) only[↓reduceIte,↓AA,Nat.reduceAdd,go_sem,Bool.not_true,Bool.not_false,L1,L2,L3,L4,ls,l1,l2,l3]<;>omega)|assumption|omega))|fail)
   rfl
  (repeat' with_reducible first|refine(Aq _ _).trans ?_|refine(Au _ _).trans ?_|refine(AA _ _).trans ?_|((first|(refine' (AB ?_ _).trans ?_;rotate_left)|refine(if_pos ?_).trans ?_|refine(AZ ?_ _ _).trans ?_);focus (first|rfl|(simp(disch:=first|assumption|omega|with_reducible rfl|(simp only[go_sem]<;>omega)|fail) only[↓reduceIte,↓AA,Nat.reduceAdd,go_sem,Bool.not_true,Bool.not_false,L1,L2,L3,L4,ls,l1,l2,l3,l4]<;>first|rfl|omega)|assumption|omega))|(refine(AQ ?_ _ _).trans ?_;focus (first|(simp(disch:=first|assumption|omega|with_reducible rfl|(simp only[go_sem]<;>omega)|fail) only[↓reduceIte,↓AA,Nat.reduceAdd,go_sem,Bool.not_true,Bool.not_false,L1,L2,L3,L4,ls,l1,l2,l3,l4]<;>omega)|assumption|omega))|fail)
  rfl
 |succ n ih=>
  intro i hi
  have h:i<b.known.length:=by omega
  have hx:=he _ (List.getElem_mem h)
  have ls:AO .lss (.int .i64 (i:Int)) (.int .i64 (b.known.length:Int))=some (.bool true):=by rw[b_lss,decide_eq_true (by omega)]
  have at_:(b.known.map sS)[i]?=some (sS b.known[i]):=by simp[h]
  have ix:Di 58 (.lst 58 .sh (b.known.map sS)) (.int .i64 (i:Int))=some (.rop 58 (sS b.known[i])):=Ie (f:= .sh) at_
  have ad:AO .add (.int .i64 (i:Int)) (.int .i64 1)=some (.int .i64 ((i+1:Nat):Int)):=by rw[Dp,wrap_i64 (by omega) (by omega)];rfl
  have ln:=Om b.known[i]
  have fw:=VU hx
  have ih':=ih (i+1) (by omega)
  have ry:∀h,AL h [sS b.known[i]]=[sS b.known[i]]:=fun _=>rfl
  rw[List.drop_eq_getElem_cons h,List.all_cons]
  by_cases h12:b.known[i].length≤12
  ·have gt:AO .gtr (.int .i64 (b.known[i].length:Int)) (.int .i64 12)=some (.bool false):=by rw[b_gtr,decide_eq_false (by omega)]
   cases hf:Jc b.known[i]with
   |true=>
    rw[hf]at fw
    rw[decide_eq_true h12,Bool.true_and,Bool.true_and,←ih',Hu]
    clear ih ih' hf
    simp only[vB,GR]
    generalize (i+1:Nat)=j at*
    generalize hs:sS b.known[i]=L at*
    have w:L.weak=L:=by rw[←hs];rfl
    clear hs
    generalize (b.known.length:Int)=z3 at*
    generalize (b.known[i].length:Int)=z at*
    generalize b.known.map sS=a3 at*
    (repeat' with_reducible first|refine(Aq _ _).trans ?_|refine(Au _ _).trans ?_|refine(AA _ _).trans ?_|((first|(refine' (AB ?_ _).trans ?_;rotate_left)|refine(if_pos ?_).trans ?_|refine(AZ ?_ _ _).trans ?_);focus (first|rfl|(simp(disch:=first|assumption|omega|with_reducible rfl|(simp only[go_sem]<;>omega)|fail) only[↓reduceIte,↓AA,Nat.reduceAdd,go_sem,Bool.not_true,Bool.not_false,L3,ls,ix,ad,w,ln,gt,ry,fw]<;>first|rfl|omega)|assumption|omega))|(refine(AQ ?_ _ _).trans ?_;focus (first|(simp(disch:=first|assumption|omega|with_reducible rfl|(simp only[go_sem]<;>omega)|fail) only[↓reduceIte,↓AA,Nat.reduceAdd,go_sem,Bool.not_true,Bool.not_false,L3,ls,ix,ad,w,ln,gt,ry,fw]<;>omega)|assumption|omega))|fail)
    rfl
   |false=>
    rw[hf]at fw
    rw[Bool.and_false,Bool.false_and,Bool.false_and,Hu]
    clear ih ih' hf
    simp only[vB,GR]
    generalize hs:sS b.known[i]=L at*
    have w:L.weak=L:=by rw[←hs];rfl
    clear hs
    generalize (b.known.length:Int)=z3 at*
    generalize (b.known[i].length:Int)=z at*
    generalize b.known.map sS=a3 at*
    (repeat' with_reducible first|refine(Aq _ _).trans ?_|refine(Au _ _).trans ?_|refine(AA _ _).trans ?_|((first|(refine' (AB ?_ _).trans ?_;rotate_left)|refine(if_pos ?_).trans ?_|refine(AZ ?_ _ _).trans ?_);focus (first|rfl|(simp(disch:=first|assumption|omega|with_reducible rfl|(simp only[go_sem]<;>omega)|fail) only[↓reduceIte,↓AA,Nat.reduceAdd,go_sem,Bool.not_true,Bool.not_false,L3,ls,ix,w,ln,gt,ry,fw]<;>first|rfl|omega)|assumption|omega))|(refine(AQ ?_ _ _).trans ?_;focus (first|(simp(disch:=first|assumption|omega|with_reducible rfl|(simp only[go_sem]<;>omega)|fail) only[↓reduceIte,↓AA,Nat.reduceAdd,go_sem,Bool.not_true,Bool.not_false,L3,ls,ix,w,ln,gt,ry,fw]<;>omega)|assumption|omega))|fail)
    rfl
  ·have gt:AO .gtr (.int .i64 (b.known[i].length:Int)) (.int .i64 12)=some (.bool true):=by rw[b_gtr,decide_eq_true (by omega)]
   rw[decide_eq_false h12,Bool.false_and,Bool.false_and,Bool.false_and,Hu]
   clear ih ih'
   simp only[vB,GR]
   generalize hs:sS b.known[i]=L at*
   have w:L.weak=L:=by rw[←hs];rfl
   clear hs
   generalize (b.known.length:Int)=z3 at*
   generalize (b.known[i].length:Int)=z at*
   generalize b.known.map sS=a3 at*
   (repeat' with_reducible first|refine(Aq _ _).trans ?_|refine(Au _ _).trans ?_|refine(AA _ _).trans ?_|((first|(refine' (AB ?_ _).trans ?_;rotate_left)|refine(if_pos ?_).trans ?_|refine(AZ ?_ _ _).trans ?_);focus (first|rfl|(simp(disch:=first|assumption|omega|with_reducible rfl|(simp only[go_sem]<;>omega)|fail) only[↓reduceIte,↓AA,Nat.reduceAdd,go_sem,Bool.not_true,Bool.not_false,L3,ls,ix,w,ln,gt]<;>first|rfl|omega)|assumption|omega))|(refine(AQ ?_ _ _).trans ?_;focus (first|(simp(disch:=first|assumption|omega|with_reducible rfl|(simp only[go_sem]<;>omega)|fail) only[↓reduceIte,↓AA,Nat.reduceAdd,go_sem,Bool.not_true,Bool.not_false,L3,ls,ix,w,ln,gt]<;>omega)|assumption|omega))|fail)
   rfl
theorem AFR {b:Bk} (hk:b.known.length<9223372036854775808) (he:∀k∈b.known,k.length<9223372036854775808):Cl 15 [vB b] []=some (.bool (AAC b),[]):=by
 have h:=AFQ hk he b.known.length 0 (by omega)
 rw[List.drop_zero]at h
 rw[AAC,←h,AHB]
 (repeat' with_reducible first|refine(Aq _ _).trans ?_|refine(Au _ _).trans ?_|refine(AA _ _).trans ?_|((first|(refine' (AB ?_ _).trans ?_;rotate_left)|refine(if_pos ?_).trans ?_|refine(AZ ?_ _ _).trans ?_);focus (first|rfl|(simp(disch:=first|assumption|omega|with_reducible rfl|(simp only[go_sem]<;>omega)|fail) only[↓reduceIte,↓AA,Nat.reduceAdd,go_sem,Bool.not_true,Bool.not_false]<;>first|rfl|omega)|assumption|omega))|(refine(AQ ?_ _ _).trans ?_;focus (first|(simp(disch:=first|assumption|omega|with_reducible rfl|(simp only[go_sem]<;>omega)|fail) only[↓reduceIte,↓AA,Nat.reduceAdd,go_sem,Bool.not_true,Bool.not_false]<;>omega)|assumption|omega))|fail)
 rfl
def ACy (l:List Vd):Bool:=l.all (fun v=>Jc v.known&&decide (v.sent.length≤20))&&decide (l.length≤8)
theorem AFS {l:List Vd} (hl:l.length<9223372036854775808) (he:∀v∈l,v.known.length<9223372036854775808):∀(n i:Nat),i+n=l.length→
 Rq (lVd l) (.int .i64 (i:Int))=some (.bool ((l.drop i).all (fun v=>Jc v.known&&decide (v.sent.length≤20))&&decide (l.length≤8)),[]):=by
 intro n
 have L1:=DF 60 .sh BO l
 induction n with
 |zero=>
  intro i hi
  have ls:AO .lss (.int .i64 (i:Int)) (.int .i64 (l.length:Int))=some (.bool false):=by rw[b_lss,decide_eq_false (by omega)]
  have le:AO .leq (.int .i64 (l.length:Int)) (.int .i64 8)=some (.bool (decide (l.length≤8))):=by rw[b_leq];exact congrArg (fun b=>some (V.bool b)) (TR _ 8)
  rw[List.drop_eq_nil_of_le (by omega),List.all_nil,Bool.true_and,Hw]
  simp only[lVd]
  generalize decide (l.length≤8)=b at*
  generalize (l.length:Int)=z at*
  generalize l.map BO=L at*
  (repeat' with_reducible first|refine(Aq _ _).trans ?_|refine(Au _ _).trans ?_|refine(AA _ _).trans ?_|((first|(refine' (AB ?_ _).trans ?_;rotate_left)|refine(if_pos ?_).trans ?_|refine(AZ ?_ _ _).trans ?_);focus (first|rfl|(simp(disch:=first|assumption|omega|with_reducible rfl|(simp only[go_sem]<;>omega)|fail) only[↓reduceIte,↓AA,Nat.reduceAdd,go_sem,Bool.not_true,Bool.not_false,L1,ls,le]<;>first|rfl|omega)|assumption|omega))|(refine(AQ ?_ _ _).trans ?_;focus (first|(simp(disch:=first|assumption|omega|with_reducible rfl|(simp only[go_sem]<;>omega)|fail) only[↓reduceIte,↓AA,Nat.reduceAdd,go_sem,Bool.not_true,Bool.not_false,L1,ls,le]<;>omega)|assumption|omega))|fail)
  rfl
 |succ n ih=>
  intro i hi
  have h:i<l.length:=by omega
  have hx:=he _ (List.getElem_mem h)
  have ls:AO .lss (.int .i64 (i:Int)) (.int .i64 (l.length:Int))=some (.bool true):=by rw[b_lss,decide_eq_true (by omega)]
  have ix:Di 60 (lVd l) (.int .i64 (i:Int))=some (.rop 60 (BO l[i])):=Ie (f:= .sh) (VT h)
  have ad:AO .add (.int .i64 (i:Int)) (.int .i64 1)=some (.int .i64 ((i+1:Nat):Int)):=by rw[Dp,wrap_i64 (by omega) (by omega)];rfl
  have ln:=DF 108 .sh AV l[i].sent
  have fw:=VU hx
  have ih':=ih (i+1) (by omega)
  have ry:∀h,AL h [sS l[i].known]=[sS l[i].known]:=fun _=>rfl
  have w:(sS l[i].known).weak=sS l[i].known:=rfl
  rw[List.drop_eq_getElem_cons h,List.all_cons]
  simp only[BO,lVd]at ix⊢
  simp only[lVd]at ih'
  cases hf:Jc l[i].known with
  |false=>
   rw[hf]at fw
   rw[Bool.false_and,Bool.false_and,Bool.false_and,Hw]
   clear ih ih' hf
   generalize l[i]=v at*
   generalize (l.length:Int)=z3 at*
   generalize l.map BO=a3 at*
   generalize sS v.known=L at*
   (repeat' with_reducible first|refine(Aq _ _).trans ?_|refine(Au _ _).trans ?_|refine(AA _ _).trans ?_|((first|(refine' (AB ?_ _).trans ?_;rotate_left)|refine(if_pos ?_).trans ?_|refine(AZ ?_ _ _).trans ?_);focus (first|rfl|(simp(disch:=first|assumption|omega|with_reducible rfl|(simp only[go_sem]<;>omega)|fail) only[↓reduceIte,↓AA,Nat.reduceAdd,go_sem,Bool.not_true,Bool.not_false,L1,ls,ix,ry,fw,w]<;>first|rfl|omega)|assumption|omega))|(refine(AQ ?_ _ _).trans ?_;focus (first|(simp(disch:=first|assumption|omega|with_reducible rfl|(simp only[go_sem]<;>omega)|fail) only[↓reduceIte,↓AA,Nat.reduceAdd,go_sem,Bool.not_true,Bool.not_false,L1,ls,ix,ry,fw,w]<;>omega)|assumption|omega))|fail)
   rfl
  |true=>
   rw[hf]at fw
   by_cases h20:l[i].sent.length≤20
   ·have gt:AO .gtr (.int .i64 (l[i].sent.length:Int)) (.int .i64 20)=some (.bool false):=by rw[b_gtr,decide_eq_false (by omega)]
    rw[decide_eq_true h20,Bool.true_and,Bool.true_and,←ih',Hw]
    clear ih ih' hf
    generalize (i+1:Nat)=j at*
    generalize l[i]=v at*
    generalize (l.length:Int)=z3 at*
    generalize (v.sent.length:Int)=z at*
    generalize v.sent.map AV=M at*
    generalize l.map BO=a3 at*
    generalize sS v.known=L at*
    (repeat' with_reducible first|refine(Aq _ _).trans ?_|refine(Au _ _).trans ?_|refine(AA _ _).trans ?_|((first|(refine' (AB ?_ _).trans ?_;rotate_left)|refine(if_pos ?_).trans ?_|refine(AZ ?_ _ _).trans ?_);focus (first|rfl|(simp(disch:=first|assumption|omega|with_reducible rfl|(simp only[go_sem]<;>omega)|fail) only[↓reduceIte,↓AA,Nat.reduceAdd,go_sem,Bool.not_true,Bool.not_false,L1,ls,ix,ry,fw,w,ln,gt,ad]<;>first|rfl|omega)|assumption|omega))|(refine(AQ ?_ _ _).trans ?_;focus (first|(simp(disch:=first|assumption|omega|with_reducible rfl|(simp only[go_sem]<;>omega)|fail) only[↓reduceIte,↓AA,Nat.reduceAdd,go_sem,Bool.not_true,Bool.not_false,L1,ls,ix,ry,fw,w,ln,gt,ad]<;>omega)|assumption|omega))|fail)
    rfl
   ·have gt:AO .gtr (.int .i64 (l[i].sent.length:Int)) (.int .i64 20)=some (.bool true):=by rw[b_gtr,decide_eq_true (by omega)]
    rw[decide_eq_false h20,Bool.and_false,Bool.false_and,Bool.false_and,Hw]
    clear ih ih' hf
    generalize l[i]=v at*
    generalize (l.length:Int)=z3 at*
    generalize (v.sent.length:Int)=z at*
    generalize v.sent.map AV=M at*
    generalize l.map BO=a3 at*
    generalize sS v.known=L at*
    (repeat' with_reducible first|refine(Aq _ _).trans ?_|refine(Au _ _).trans ?_|refine(AA _ _).trans ?_|((first|(refine' (AB ?_ _).trans ?_;rotate_left)|refine(if_pos ?_).trans ?_|refine(AZ ?_ _ _).trans ?_);focus (first|rfl|(simp(disch:=first|assumption|omega|with_reducible rfl|(simp only[go_sem]<;>omega)|fail) only[↓reduceIte,↓AA,Nat.reduceAdd,go_sem,Bool.not_true,Bool.not_false,L1,ls,ix,ry,fw,w,ln,gt]<;>first|rfl|omega)|assumption|omega))|(refine(AQ ?_ _ _).trans ?_;focus (first|(simp(disch:=first|assumption|omega|with_reducible rfl|(simp only[go_sem]<;>omega)|fail) only[↓reduceIte,↓AA,Nat.reduceAdd,go_sem,Bool.not_true,Bool.not_false,L1,ls,ix,ry,fw,w,ln,gt]<;>omega)|assumption|omega))|fail)
    rfl
theorem AFT {l:List Vd} (hl:l.length<9223372036854775808) (he:∀v∈l,v.known.length<9223372036854775808):Cl 16 [lVd l] []=some (.bool (ACy l),[]):=by
 have h:=AFS hl he l.length 0 (by omega)
 rw[List.drop_zero]at h
 rw[ACy,←h,AHC]
 rfl
end
section
open Go AM
def DL (v:Vd):Bool:= !decide (v.err=0)
theorem ACz (v:Vd):Cl 43 [BO v] []=some (.bool (DL v),[]):=by
 have ne:AO .neq (.int .i64 v.err) (.int .i64 0)=some (.bool (DL v)):=by
  rw[b_neq,DL];congr 2
  by_cases h:v.err=0<;>simp[h]
 have h1:=KF v
 rw[AHM]
 have w:=VS v
 have c:(BJ tVd (BO v)&&V.under 0 (BO v))=true:=by rw[ZB,(V.PF _ h1).under];rfl
 rw[w,if_pos c]
 clear c w h1
 simp only[BO]
 generalize DL v=o at*
 (repeat' with_reducible first|refine(Aq _ _).trans ?_|refine(Au _ _).trans ?_|refine(AA _ _).trans ?_|((first|(refine' (AB ?_ _).trans ?_;rotate_left)|refine(if_pos ?_).trans ?_|refine(AZ ?_ _ _).trans ?_);focus (first|rfl|(simp(disch:=first|assumption|omega|with_reducible rfl|(simp only[go_sem]<;>omega)|fail) only[↓reduceIte,↓AA,Nat.reduceAdd,go_sem,Bool.not_true,Bool.not_false,ne]<;>first|rfl|omega)|assumption|omega))|(refine(AQ ?_ _ _).trans ?_;focus (first|(simp(disch:=first|assumption|omega|with_reducible rfl|(simp only[go_sem]<;>omega)|fail) only[↓reduceIte,↓AA,Nat.reduceAdd,go_sem,Bool.not_true,Bool.not_false,ne]<;>omega)|assumption|omega))|fail)
 rfl
abbrev Kw:V:= .clo 43 []
theorem AIp {R:Type} {h:List V} (v:Vd) (k:V→List V→Option R):CP P D9 W Kw [BO v] h k=k (.bool (DL v)) h:=by
 rw[MB _ (by kernel_rfl) (by kernel_rfl)]
 have e:AL h ([BO v]++[])=[BO v]:=by simp only[List.append_nil,AL,AAB]
 rw[e,ACz v];rfl
theorem AFU (a:V) {l:List Vd} (hl:l.length<1000000):∀(m i:Nat),i+m=l.length→
 SI (.lst 60 .sh (l.map BO)) Kw (.int .i64 (l.length:Int)) (.int .i64 (i:Int)) 1 [a]=some (.int .i64 (Fq DL i (l.drop i)),[a]):=by
 intro m
 induction m with
 |zero=>
  intro i hi
  rw[List.drop_eq_nil_of_le (by omega),J8,Fq]
  have ls:AO .lss (.int .i64 (i:Int)) (.int .i64 (l.length:Int))=some (.bool false):=by rw[b_lss,decide_eq_false (by omega)]
  (repeat' with_reducible first|refine(Aq _ _).trans ?_|refine(Au _ _).trans ?_|refine(AA _ _).trans ?_|((first|(refine' (AB ?_ _).trans ?_;rotate_left)|refine(if_pos ?_).trans ?_|refine(AZ ?_ _ _).trans ?_);focus (first|rfl|(simp(disch:=first|assumption|omega|with_reducible rfl|(simp only[go_sem]<;>omega)|fail) only[↓reduceIte,↓AA,Nat.reduceAdd,go_sem,Bool.not_true,Bool.not_false,ls]<;>first|rfl|omega)|assumption|omega))|(refine(AQ ?_ _ _).trans ?_;focus (first|(simp(disch:=first|assumption|omega|with_reducible rfl|(simp only[go_sem]<;>omega)|fail) only[↓reduceIte,↓AA,Nat.reduceAdd,go_sem,Bool.not_true,Bool.not_false,ls]<;>omega)|assumption|omega))|fail)
  rfl
 |succ m ih=>
  intro i hi
  have h:i<l.length:=by omega
  have ih':=ih (i+1) (by omega)
  have ls:AO .lss (.int .i64 (i:Int)) (.int .i64 (l.length:Int))=some (.bool true):=by rw[b_lss,decide_eq_true (by omega)]
  have ix:Di 60 (.lst 60 .sh (l.map BO)) (.int .i64 (i:Int))=some (.rop 60 (BO l[i])):=Ie (f:= .sh) (VT h)
  have ad:AO .add (.int .i64 (i:Int)) (.int .i64 1)=some (.int .i64 ((i+1:Nat):Int)):=by rw[Dp,wrap_i64 (by omega) (by omega)];rfl
  have ld:∀h,BI h 60 (.rop 60 (BO l[i]))=some (BO l[i]):=fun h=>by simp only[BI,Ae,if_true,Option.map_some,VS]
  have od:=fun(R:Type) h (k:V→List V→Option R)=>AIp (h:=h) l[i] k
  rw[List.drop_eq_getElem_cons h,Fq]
  by_cases ho:DL l[i]=true
  ·rw[ho]at od
   rw[if_pos ho,J8]
   clear ih ih' ho
   generalize BO l[i]=v at*
   generalize (l.length:Int)=z at*
   generalize l.map BO=L at*
   (repeat' with_reducible first|refine(Aq _ _).trans ?_|refine(Au _ _).trans ?_|refine(AA _ _).trans ?_|((first|(refine' (AB ?_ _).trans ?_;rotate_left)|refine(if_pos ?_).trans ?_|refine(AZ ?_ _ _).trans ?_);focus (first|rfl|(simp(disch:=first|assumption|omega|with_reducible rfl|(simp only[go_sem]<;>omega)|fail) only[↓reduceIte,↓AA,Nat.reduceAdd,go_sem,Bool.not_true,Bool.not_false,ls,ix,ld]<;>first|rfl|omega)|assumption|omega))|(refine(AQ ?_ _ _).trans ?_;focus (first|(simp(disch:=first|assumption|omega|with_reducible rfl|(simp only[go_sem]<;>omega)|fail) only[↓reduceIte,↓AA,Nat.reduceAdd,go_sem,Bool.not_true,Bool.not_false,ls,ix,ld]<;>omega)|assumption|omega))|fail)
   rw[od]
   (repeat' with_reducible first|refine(Aq _ _).trans ?_|refine(Au _ _).trans ?_|refine(AA _ _).trans ?_|((first|(refine' (AB ?_ _).trans ?_;rotate_left)|refine(if_pos ?_).trans ?_|refine(AZ ?_ _ _).trans ?_);focus (first|rfl|(simp(disch:=first|assumption|omega|with_reducible rfl|(simp only[go_sem]<;>omega)|fail) only[↓reduceIte,↓AA,Nat.reduceAdd,go_sem,Bool.not_true,Bool.not_false]<;>first|rfl|omega)|assumption|omega))|(refine(AQ ?_ _ _).trans ?_;focus (first|(simp(disch:=first|assumption|omega|with_reducible rfl|(simp only[go_sem]<;>omega)|fail) only[↓reduceIte,↓AA,Nat.reduceAdd,go_sem,Bool.not_true,Bool.not_false]<;>omega)|assumption|omega))|fail)
   rfl
  ·have ho':DL l[i]=false:=by simpa using ho
   rw[ho']at od
   rw[if_neg ho,←ih',J8]
   clear ih ih' ho ho'
   generalize (i+1:Nat)=j at*
   generalize BO l[i]=v at*
   generalize (l.length:Int)=z at*
   generalize l.map BO=L at*
   (repeat' with_reducible first|refine(Aq _ _).trans ?_|refine(Au _ _).trans ?_|refine(AA _ _).trans ?_|((first|(refine' (AB ?_ _).trans ?_;rotate_left)|refine(if_pos ?_).trans ?_|refine(AZ ?_ _ _).trans ?_);focus (first|rfl|(simp(disch:=first|assumption|omega|with_reducible rfl|(simp only[go_sem]<;>omega)|fail) only[↓reduceIte,↓AA,Nat.reduceAdd,go_sem,Bool.not_true,Bool.not_false,ls,ix,ld]<;>first|rfl|omega)|assumption|omega))|(refine(AQ ?_ _ _).trans ?_;focus (first|(simp(disch:=first|assumption|omega|with_reducible rfl|(simp only[go_sem]<;>omega)|fail) only[↓reduceIte,↓AA,Nat.reduceAdd,go_sem,Bool.not_true,Bool.not_false,ls,ix,ld]<;>omega)|assumption|omega))|fail)
   rw[od]
   (repeat' with_reducible first|refine(Aq _ _).trans ?_|refine(Au _ _).trans ?_|refine(AA _ _).trans ?_|((first|(refine' (AB ?_ _).trans ?_;rotate_left)|refine(if_pos ?_).trans ?_|refine(AZ ?_ _ _).trans ?_);focus (first|rfl|(simp(disch:=first|assumption|omega|with_reducible rfl|(simp only[go_sem]<;>omega)|fail) only[↓reduceIte,↓AA,Nat.reduceAdd,go_sem,Bool.not_true,Bool.not_false,ad]<;>first|rfl|omega)|assumption|omega))|(refine(AQ ?_ _ _).trans ?_;focus (first|(simp(disch:=first|assumption|omega|with_reducible rfl|(simp only[go_sem]<;>omega)|fail) only[↓reduceIte,↓AA,Nat.reduceAdd,go_sem,Bool.not_true,Bool.not_false,ad]<;>omega)|assumption|omega))|fail)
   rfl
theorem AFV (a:V) {l:List Vd} (hl:l.length<1000000):Cl 44 [.lst 60 .sh (l.map BO),Kw] [a]=some (.bool (l.any DL),[a]):=by
 have h:=AFU a hl l.length 0 (by omega)
 rw[List.drop_zero]at h
 have L1:=DF 60 .sh BO l
 have n2:AP [V.lst 60 .sh (l.map BO),Kw]=[V.lst 60 .sh (l.map BO),Kw]:=rfl
 have ix:Cl 73 [.lst 60 .sh (l.map BO),Kw] [a]=some (.int .i64 (Fq DL 0 l),[a]):=by
  rw[←h,AHe]
  clear h n2
  generalize l.map BO=L at*
  (repeat' with_reducible first|refine(Aq _ _).trans ?_|refine(Au _ _).trans ?_|refine(AA _ _).trans ?_|((first|(refine' (AB ?_ _).trans ?_;rotate_left)|refine(if_pos ?_).trans ?_|refine(AZ ?_ _ _).trans ?_);focus (first|rfl|(simp(disch:=first|assumption|omega|with_reducible rfl|(simp only[go_sem]<;>omega)|fail) only[↓reduceIte,↓AA,Nat.reduceAdd,go_sem,Bool.not_true,Bool.not_false,L1]<;>first|rfl|omega)|assumption|omega))|(refine(AQ ?_ _ _).trans ?_;focus (first|(simp(disch:=first|assumption|omega|with_reducible rfl|(simp only[go_sem]<;>omega)|fail) only[↓reduceIte,↓AA,Nat.reduceAdd,go_sem,Bool.not_true,Bool.not_false,L1]<;>omega)|assumption|omega))|fail)
  rfl
 have ge:AO .geq (.int .i64 (Fq DL 0 l)) (.int .i64 0)=some (.bool (l.any DL)):=by
  rw[b_geq];exact congrArg (fun b=>some (V.bool b)) (by rw[←TI DL l 0])
 rw[AHN]
 clear h L1
 generalize l.map BO=L at*
 generalize Fq DL 0 l=r at*
 generalize l.any DL=o at*
 (repeat' with_reducible first|refine(Aq _ _).trans ?_|refine(Au _ _).trans ?_|refine(AA _ _).trans ?_|((first|(refine' (AB ?_ _).trans ?_;rotate_left)|refine(if_pos ?_).trans ?_|refine(AZ ?_ _ _).trans ?_);focus (first|rfl|(simp(disch:=first|assumption|omega|with_reducible rfl|(simp only[go_sem]<;>omega)|fail) only[↓reduceIte,↓AA,Nat.reduceAdd,go_sem,Bool.not_true,Bool.not_false,n2,ix,ge]<;>first|rfl|omega)|assumption|omega))|(refine(AQ ?_ _ _).trans ?_;focus (first|(simp(disch:=first|assumption|omega|with_reducible rfl|(simp only[go_sem]<;>omega)|fail) only[↓reduceIte,↓AA,Nat.reduceAdd,go_sem,Bool.not_true,Bool.not_false,n2,ix,ge]<;>omega)|assumption|omega))|fail)
 rfl
def nxF (f:Fl) (n:Nat):Fl:=if f= .nil∧n=0 then .nil else .own
theorem AC0 {f:Fl} (n:Nat):nxF f n= .own∨nxF f n= .nil:=by unfold nxF;split<;>simp
theorem AGn {f g:Fl} (hf:f= .own∨f= .nil) {h:List V} {ys:List V} {ty:V→Bool} {xs:List V} (hc:AU ys=true) (ht:ys.all ty=true) (hl:xs.length+ys.length≤2147483648) (e e':TypeId):
 GK e ty false h (.lst e f xs) (.lst e' g ys)=some (.lst e (nxF f ys.length) (xs++ys)):=by
 have nl:∀l,nlB false l=l:=fun l=>AGb l
 rcases hf with rfl|rfl
 ·rw[H7 hc ht hl,nl];rfl
 ·cases ys with
  |nil=>
   have hy:Af h (.lst e' g [])=some []:=rfl
   have hl':xs.length≤2147483648:=by simpa using hl
   simp[GK,hy,AU,C9,hl',nl,nxF]
  |cons y ys=>rw[ACQ hc ht hl,nl];rfl
def ZC (l:List (List UInt8)):List UInt8:=(l.map DU).flatten
def vdB (v:Vd):List UInt8:=v.root++Aa v.known.length++ZC v.known
theorem AAD {a b:V} {l s:List UInt8} (hl:l.length≤1000000000) (hs:s.length≤1000000000):Cl 48 [BK 1,.str s] [a,Ar .own l,b]=some (.tup [],[a,Ar .own (l++DU s),b]):=by
 have:=I5 (h:=[a,Ar .own l,b]) (id:=1) (f:= .own) (l:=l) (s:=s) rfl Gp (by omega)
 rw[List.append_assoc]at this
 exact this
theorem XI {a:V} {l s:List UInt8} (hl:l.length≤1000000000) (hs:s.length≤1000000000):Cl 48 [BK 1,.str s] [a,Ar .own l]=some (.tup [],[a,Ar .own (l++DU s)]):=by
 have:=I5 (h:=[a,Ar .own l]) (id:=1) (f:= .own) (l:=l) (s:=s) rfl Gp (by omega)
 rw[List.append_assoc]at this
 exact this
theorem AAE {a b:V} {l:List UInt8} {x:Nat} (h1:x<18446744073709551616) (hl:l.length≤2000000000):Cl 46 [BK 1,.int .u64 (x:Int)] [a,Ar .own l,b]=some (.tup [],[a,Ar .own (l++Aa x),b]):=
 Cm (h:=[a,Ar .own l,b]) (id:=1) (n:=x) rfl Gp (by omega) (by omega)
theorem Gt {s:List UInt8}:(DU s).length≤s.length+10:=by
 have:=Ac 10 s.length
 rw[DU,List.length_append];simp only[Aa];omega
def Oo (v:Vd):Prop:=v.root.length=32∧v.known.length≤12∧(∀s∈v.known,s.length≤300)∧v.sent.length≤20∧∀m∈v.sent,Z9 m
theorem AIq {b:V} {l:List Vd} {v:Vd} (hv:Oo v) {i:Nat} (hi:i<8) {sent:List Msg} {f:Fl} (hf:f= .own∨f= .nil) (hs:sent.length≤20*i) {m0:Nat} (hm:m0=2):∀(n k:Nat) (acc:List UInt8),k+n=v.known.length→acc.length≤100000+400*k→
 Rt (BK 1) (.lst 108 f (sent.map AV)) (.ref 2 [] 60) (.lst 60 .sh (l.map BO)) (.int .i64 (l.length:Int)) (.int .i64 (i:Int)) (sS v.known) (.int .i64 (v.known.length:Int)) (.int .i64 (k:Int)) m0 [b,Ar .own acc,BO v]=
  NE (BK 1) (.lst 108 (nxF f v.sent.length) ((sent++v.sent).map AV)) (.lst 60 .sh (l.map BO)) (.int .i64 (l.length:Int)) (.int .i64 ((i+1:Nat):Int)) [b,Ar .own (acc++ZC (v.known.drop k))]:=by
 subst hm
 obtain⟨h32,h12,h300,h20,hmok⟩:=hv
 intro n
 induction n with
 |zero=>
  intro k acc hk ha
  have ls:AO .lss (.int .i64 (k:Int)) (.int .i64 (v.known.length:Int))=some (.bool false):=by rw[b_lss,decide_eq_false (by omega)]
  have ad:AO .add (.int .i64 (i:Int)) (.int .i64 1)=some (.int .i64 ((i+1:Nat):Int)):=by rw[Dp,wrap_i64 (by omega) (by omega)];rfl
  rw[List.drop_eq_nil_of_le (by omega),ZC,List.map_nil,List.flatten_nil,List.append_nil,QH]
  have hc:AU (v.sent.map AV)=true:=(V.PFL _ (FW v.sent)).clean
  have ap:∀h:List V,GK 108 (BJ 107) false h (.lst 108 f (sent.map AV)) (.lst 108 .sh (v.sent.map AV))=some (.lst 108 (nxF f v.sent.length) ((sent++v.sent).map AV)):=fun h=>by
   rw[AGn hf hc (Ob _) (by simp;omega),List.length_map,List.map_append]
  have fo:=AC0 (f:=f) v.sent.length
  have un:∀g x y z,(g= .own∨g= .nil)→Ad 2 [BK 1,.lst 108 g ((sent++v.sent).map AV),.lst 60 .sh x,.int .i64 y,.int .i64 z]=true:=fun g x y z hg=>by
   rcases hg with rfl|rfl<;>rfl
  have un':=fun x y z=>un _ x y z fo
  simp only[BO]
  clear un fo hc hmok h300
  generalize nxF f v.sent.length=f2 at*
  generalize (sent++v.sent).map AV=S2 at*
  generalize sent.map AV=S1 at*
  generalize v.sent.map AV=S0 at*
  generalize (i+1:Nat)=j at*
  generalize l.map BO=L at*
  generalize (l.length:Int)=zl at*
  generalize (v.known.length:Int)=z at*
  generalize sS v.known=S at*
  (repeat' with_reducible first|refine(Aq _ _).trans ?_|refine(Au _ _).trans ?_|refine(AA _ _).trans ?_|((first|(refine' (AB ?_ _).trans ?_;rotate_left)|refine(if_pos ?_).trans ?_|refine(AZ ?_ _ _).trans ?_);focus (first|rfl|(simp(disch:=first|assumption|omega|with_reducible rfl|(simp only[go_sem]<;>omega)|fail) only[↓reduceIte,↓AA,Nat.reduceAdd,go_sem,Bool.not_true,Bool.not_false,ls,ap,ad,un']<;>first|rfl|omega)|assumption|omega))|(refine(AQ ?_ _ _).trans ?_;focus (first|(simp(disch:=first|assumption|omega|with_reducible rfl|(simp only[go_sem]<;>omega)|fail) only[↓reduceIte,↓AA,Nat.reduceAdd,go_sem,Bool.not_true,Bool.not_false,ls,ap,ad,un']<;>omega)|assumption|omega))|fail)
  rfl
 |succ n ih=>
  intro k acc hk ha
  have h:k<v.known.length:=by omega
  have hx:=h300 _ (List.getElem_mem h)
  have tl:=Gt (s:=v.known[k])
  have ls:AO .lss (.int .i64 (k:Int)) (.int .i64 (v.known.length:Int))=some (.bool true):=by rw[b_lss,decide_eq_true (by omega)]
  have ix:Di 9 (sS v.known) (.int .i64 (k:Int))=some (.rop 9 (.str v.known[k])):=Ie (f:= .sh) (MR h)
  have ad:AO .add (.int .i64 (k:Int)) (.int .i64 1)=some (.int .i64 ((k+1:Nat):Int)):=by rw[Dp,wrap_i64 (by omega) (by omega)];rfl
  have ot:=AAD (a:=b) (b:=BO v) (l:=acc) (s:=v.known[k]) (by omega) (by omega)
  have ih':=ih (k+1) (acc++DU v.known[k]) (by omega) (by rw[List.length_append];omega)
  have nr:∀s:List UInt8,AP [BK 1,.str s]=[BK 1,.str s]:=fun s=>rfl
  rw[List.drop_eq_getElem_cons h,ZC,List.map_cons,List.flatten_cons,←List.append_assoc]
  rw[ZC]at ih'
  rw[←ih',QH]
  clear ih ih' tl hmok h300
  generalize acc++DU v.known[k]=acc2 at*
  generalize v.known[k]=s at*
  generalize (k+1:Nat)=j at*
  generalize (v.known.length:Int)=z at*
  generalize sS v.known=S at*
  generalize BO v=vv at*
  (repeat' with_reducible first|refine(Aq _ _).trans ?_|refine(Au _ _).trans ?_|refine(AA _ _).trans ?_|((first|(refine' (AB ?_ _).trans ?_;rotate_left)|refine(if_pos ?_).trans ?_|refine(AZ ?_ _ _).trans ?_);focus (first|rfl|(simp(disch:=first|assumption|omega|with_reducible rfl|(simp only[go_sem]<;>omega)|fail) only[↓reduceIte,↓AA,Nat.reduceAdd,go_sem,Bool.not_true,Bool.not_false,ls,ix,nr,ot,ad]<;>first|rfl|omega)|assumption|omega))|(refine(AQ ?_ _ _).trans ?_;focus (first|(simp(disch:=first|assumption|omega|with_reducible rfl|(simp only[go_sem]<;>omega)|fail) only[↓reduceIte,↓AA,Nat.reduceAdd,go_sem,Bool.not_true,Bool.not_false,ls,ix,nr,ot,ad]<;>omega)|assumption|omega))|fail)
  rfl
def Aw (l:List Vd):List Msg:=l.flatMap (·.sent)
theorem Jd {l:List Vd} (h:∀v∈l,Oo v):(Aw l).length≤20*l.length:=by
 induction l with
 |nil=>simp[Aw]
 |cons v l ih=>
  have a:=ih (fun x hx=>h x (List.mem_cons_of_mem _ hx))
  have b:=(h v List.mem_cons_self).2.2.2.1
  simp only[Aw,List.flatMap_cons,List.length_append,List.length_cons]at a⊢;omega
theorem VW {l:List Vd} (h:∀v∈l,Oo v):∀m∈Aw l,Z9 m:=by
 intro m hm
 obtain⟨v,hv,hm⟩:=List.mem_flatMap.1 hm
 exact(h v hv).2.2.2.2 m hm
theorem AFX {l:List (List UInt8)} (h:∀s∈l,s.length≤300):(ZC l).length≤310*l.length:=by
 induction l with
 |nil=>simp[ZC]
 |cons s l ih=>
  have a:=ih (fun x hx=>h x (List.mem_cons_of_mem _ hx))
  have b:=h s List.mem_cons_self
  have c:=Gt (s:=s)
  simp only[ZC,List.map_cons,List.flatten_cons,List.length_append,List.length_cons]at a⊢;omega
theorem ZE {v:Vd} (h:Oo v):(vdB v).length≤3800:=by
 have a:=AFX h.2.2.1
 have b:=h.2.1
 have c:=Ac 10 v.known.length
 rw[vdB,List.length_append,List.length_append,h.1];simp only[Aa];omega
theorem VX (l:List Msg):(FY l).length≤10+40*l.length:=by
 have a:=Ac 10 l.length
 have:∀rs:List (List UInt8),(∀r∈rs,r.length≤30)→((rs.map DU).flatten).length≤40*rs.length:=by
  intro rs
  induction rs with
  |nil=>simp
  |cons r rs ih=>
   intro h
   have b:=ih (fun x hx=>h x (List.mem_cons_of_mem _ hx))
   have c:=h r List.mem_cons_self
   have d:=Gt (s:=r)
   simp only[List.map_cons,List.flatten_cons,List.length_append,List.length_cons];omega
 have b:=this (EP l) (fun r hr=>by
  obtain⟨m,_,rfl⟩:=List.mem_map.1 hr
  exact Oh m)
 rw[EP,List.length_map,CU]at b
 rw[FY,List.length_append];simp only[Aa,EP];omega
def AFY (s:List UInt8) (l:List Msg):V:=if Ja l=true then .tup [.str (s++DU (FY l)),.int .i64 0]else .tup [.str [],.int .i64 170]
theorem AIr {b:V} {l:List Vd} (hl:l.length≤8) (hv:∀v∈l,Oo v):∀(n i:Nat) (f:Fl) (acc:List UInt8),i+n=l.length→(f= .own∨f= .nil)→acc.length≤20+3800*i→
 NE (BK 1) (.lst 108 f ((Aw (l.take i)).map AV)) (.lst 60 .sh (l.map BO)) (.int .i64 (l.length:Int)) (.int .i64 (i:Int)) [b,Ar .own acc]=some (AFY (acc++(l.drop i).flatMap vdB) (Aw l),[]):=by
 intro n
 induction n with
 |zero=>
  intro i f acc hi hf ha
  have ls:AO .lss (.int .i64 (i:Int)) (.int .i64 (l.length:Int))=some (.bool false):=by rw[b_lss,decide_eq_false (by omega)]
  have sl:=Jd hv
  have pl:=VX (Aw l)
  have pt:Cl 49 [.lst 108 .sh ((Aw l).map AV)] []=_:=AIl (f:= .sh) (VW hv) (by omega)
  have ry:∀(f:Fl) h,(f= .own∨f= .nil)→AL h [V.lst 108 f ((Aw l).map AV)]=[V.lst 108 .sh ((Aw l).map AV)]:=fun f h hf=>by rcases hf with rfl|rfl<;>rfl
  have ry':=fun h=>ry f h hf
  have ot:=XI (a:=b) (l:=acc) (s:=FY (Aw l)) (by omega) (by omega)
  have nr:∀s:List UInt8,AP [BK 1,.str s]=[BK 1,.str s]:=fun s=>rfl
  have nr1:AP [BK 1]=[BK 1]:=rfl
  rw[List.take_of_length_le (by omega),List.drop_eq_nil_of_le (by omega),List.flatMap_nil,List.append_nil,QI,AFY]
  by_cases hc:Ja (Aw l)=true
  ·rw[if_pos hc]at pt
   rw[if_pos hc]
   have od:=Qr (a:=b) (f:= .own) (l:=acc++DU (FY (Aw l)))
   clear ry hc pl sl hv
   generalize acc++DU (FY (Aw l))=acc2 at*
   generalize FY (Aw l)=pb at*
   generalize (Aw l).map AV=S at*
   generalize (l.length:Int)=z at*
   generalize l.map BO=L at*
   have ne:AO .neq (.int .i64 0) (.int .i64 0)=some (.bool false):=rfl
   (repeat' with_reducible first|refine(Aq _ _).trans ?_|refine(Au _ _).trans ?_|refine(AA _ _).trans ?_|((first|(refine' (AB ?_ _).trans ?_;rotate_left)|refine(if_pos ?_).trans ?_|refine(AZ ?_ _ _).trans ?_);focus (first|rfl|(simp(disch:=first|assumption|omega|with_reducible rfl|(simp only[go_sem]<;>omega)|fail) only[↓reduceIte,↓AA,Nat.reduceAdd,go_sem,Bool.not_true,Bool.not_false,ls,ry',pt,ne,nr,nr1,ot,od]<;>first|rfl|omega)|assumption|omega))|(refine(AQ ?_ _ _).trans ?_;focus (first|(simp(disch:=first|assumption|omega|with_reducible rfl|(simp only[go_sem]<;>omega)|fail) only[↓reduceIte,↓AA,Nat.reduceAdd,go_sem,Bool.not_true,Bool.not_false,ls,ry',pt,ne,nr,nr1,ot,od]<;>omega)|assumption|omega))|fail)
   rfl
  ·rw[if_neg hc]at pt
   rw[if_neg hc]
   clear ry hc pl sl hv
   generalize FY (Aw l)=pb at*
   generalize (Aw l).map AV=S at*
   generalize (l.length:Int)=z at*
   generalize l.map BO=L at*
   have ne:AO .neq (.int .i64 110) (.int .i64 0)=some (.bool true):=rfl
   (repeat' with_reducible first|refine(Aq _ _).trans ?_|refine(Au _ _).trans ?_|refine(AA _ _).trans ?_|((first|(refine' (AB ?_ _).trans ?_;rotate_left)|refine(if_pos ?_).trans ?_|refine(AZ ?_ _ _).trans ?_);focus (first|rfl|(simp(disch:=first|assumption|omega|with_reducible rfl|(simp only[go_sem]<;>omega)|fail) only[↓reduceIte,↓AA,Nat.reduceAdd,go_sem,Bool.not_true,Bool.not_false,ls,ry',pt,ne]<;>first|rfl|omega)|assumption|omega))|(refine(AQ ?_ _ _).trans ?_;focus (first|(simp(disch:=first|assumption|omega|with_reducible rfl|(simp only[go_sem]<;>omega)|fail) only[↓reduceIte,↓AA,Nat.reduceAdd,go_sem,Bool.not_true,Bool.not_false,ls,ry',pt,ne]<;>omega)|assumption|omega))|fail)
   rfl
 |succ n ih=>
  intro i f acc hi hf ha
  have h:i<l.length:=by omega
  have hx:=hv _ (List.getElem_mem h)
  have h32:=hx.1
  have sl:(Aw (l.take i)).length≤20*i:=by
   have:=Jd (l:=l.take i) (fun v hm=>hv v (List.mem_of_mem_take hm))
   rw[List.length_take]at this;omega
  have nl:=Ac 10 l[i].known.length
  have ls:AO .lss (.int .i64 (i:Int)) (.int .i64 (l.length:Int))=some (.bool true):=by rw[b_lss,decide_eq_true (by omega)]
  have ix:Di 60 (.lst 60 .sh (l.map BO)) (.int .i64 (i:Int))=some (.rop 60 (BO l[i])):=Ie (f:= .sh) (VT h)
  have l2:=AIq (b:=b) (l:=l) hx (i:=i) (by omega) hf sl (m0:=2) rfl l[i].known.length 0 (acc++l[i].root++Aa l[i].known.length) (by omega) (by
   rw[List.length_append,List.length_append,h32];simp only[Aa];omega)
  have ih':=ih (i+1) (nxF f l[i].sent.length) (acc++vdB l[i]) (by omega) (AC0 _) (by rw[List.length_append];have:=ZE hx;omega)
  have e1:Aw (l.take (i+1))=Aw (l.take i)++l[i].sent:=by
   rw[←List.take_append_getElem h,Aw,Aw,List.flatMap_append,List.flatMap_cons,List.flatMap_nil,List.append_nil]
  have e2:acc++l[i].root++Aa l[i].known.length++ZC (l[i].known.drop 0)=acc++vdB l[i]:=by
   rw[List.drop_zero,vdB];simp only[List.append_assoc]
  rw[e2,←e1,ih']at l2
  rw[List.drop_eq_getElem_cons h,List.flatMap_cons,←List.append_assoc,←l2,QI]
  have ln:=Om l[i].known
  have kl:l[i].known.length≤12:=hx.2.1
  have cv:F9 .u64 (.int .i64 (l[i].known.length:Int))=some (.int .u64 (l[i].known.length:Int)):=cvI_u64 (by omega) (by omega)
  have oh:=XD (a:=b) (b:=BO l[i]) (l:=acc) (x:=l[i].root) h32 (by omega)
  have on:=AAE (a:=b) (b:=BO l[i]) (l:=acc++l[i].root) (x:=l[i].known.length) (by omega) (by rw[List.length_append];omega)
  have n1:∀r,AP [BK 1,BB r]=[BK 1,BB r]:=fun r=>by simp only[AP,(V.PF (BB r) (I8 r)).norm,Zu]
  have n2:∀x:Int,AP [BK 1,V.int .u64 x]=[BK 1,.int .u64 x]:=fun x=>rfl
  have w:(sS l[i].known).weak=sS l[i].known:=rfl
  clear ih ih' l2 e1 e2 nl hx
  simp only[BO]at ix oh on⊢
  generalize acc++l[i].root++Aa l[i].known.length=acc3 at*
  generalize acc++l[i].root=acc2 at*
  generalize l[i]=v at*
  have st:∀z:V,DR (BJ tVd) 60 ([b,Ar .own acc]++[z]) (.ref [b,Ar .own acc].length [] 60) (BO v)=some [b,Ar .own acc,BO v]:=fun z=>by
   have h1:=ZB v
   have h2:=(V.PF _ (KF v)).under 3
   simp[DR,h1,h2,wr,V.upd]
  simp only[BO]at st
  have pr:(BB v.root).pl=true:=I8 _
  have n1':AP [BK 1,BB v.root]=[BK 1,BB v.root]:=n1 _
  clear n1 h32 sl hv
  generalize BB v.root=ar at*
  generalize hz:V.agg 54 (List.replicate 32 (V.int .u8 0))=z0 at*
  clear hz
  have pb:Fj (v.bt.map BB)=true:=IA _
  have pm:Fj (v.sent.map AV)=true:=FW _
  have pk:(sS v.known).pl=true:=by simp only[sS,V.pl,JX]
  generalize v.bt.map BB=bb at*
  generalize v.sent.map AV=mm at*
  generalize (v.known.length:Int)=kk at*
  generalize sS v.known=ss at*
  generalize (l.length:Int)=zl at*
  generalize l.map BO=L at*
  generalize (Aw (l.take i)).map AV=S at*
  refine(AB ls _).trans ?_
  rw[Aq]
  refine(AB ix _).trans ?_
  have ld:∀h,BI h 60 (.rop 60 (.agg tVd [V.int .i64 v.err,V.int .i64 v.pl,.agg tCo [.int .i64 v.wk,.int .i64 v.st,ar,.lst 55 .sh bb],.lst 108 .sh mm,ss]))=some (.agg tVd [V.int .i64 v.err,V.int .i64 v.pl,.agg tCo [.int .i64 v.wk,.int .i64 v.st,ar,.lst 55 .sh bb],.lst 108 .sh mm,ss]):=fun h=>by
   have:=(V.PF (.agg tVd [V.int .i64 v.err,V.int .i64 v.pl,.agg tCo [.int .i64 v.wk,.int .i64 v.st,ar,.lst 55 .sh bb],.lst 108 .sh mm,ss]) (by simp only[V.pl,Fj,pr,pb,pm,pk,Bool.and_self])).weak
   simp only[BI,Ae,if_true,Option.map_some,this]
  refine(AB (ld _) _).trans ?_
  refine(AB (st _) _).trans ?_
  have lr:∀o,Ae [b,o,.agg tVd [V.int .i64 v.err,V.int .i64 v.pl,.agg tCo [.int .i64 v.wk,.int .i64 v.st,ar,.lst 55 .sh bb],.lst 108 .sh mm,ss]] 55 (.ref 2 [2,2] 55)=some ar:=fun _=>rfl
  have l4:∀o,BI [b,o,.agg tVd [V.int .i64 v.err,V.int .i64 v.pl,.agg tCo [.int .i64 v.wk,.int .i64 v.st,ar,.lst 55 .sh bb],.lst 108 .sh mm,ss]] 58 (.ref 2 [4] 58)=some ss:=fun o=>by show some ss.weak=_;rw[w]
  (repeat' with_reducible first|refine(Aq _ _).trans ?_|refine(Au _ _).trans ?_|refine(AA _ _).trans ?_|((first|(refine' (AB ?_ _).trans ?_;rotate_left)|refine(if_pos ?_).trans ?_|refine(AZ ?_ _ _).trans ?_);focus (first|rfl|(simp(disch:=first|assumption|omega|with_reducible rfl|(simp only[go_sem]<;>omega)|fail) only[↓reduceIte,↓AA,Nat.reduceAdd,go_sem,Bool.not_true,Bool.not_false,n1',n2,oh,on,ln,cv,w,lr,l4]<;>first|rfl|omega)|assumption|omega))|(refine(AQ ?_ _ _).trans ?_;focus (first|(simp(disch:=first|assumption|omega|with_reducible rfl|(simp only[go_sem]<;>omega)|fail) only[↓reduceIte,↓AA,Nat.reduceAdd,go_sem,Bool.not_true,Bool.not_false,n1',n2,oh,on,ln,cv,w,lr,l4]<;>omega)|assumption|omega))|fail)
  rfl
def okA (b:Bk) (l:List Vd):Bool:=decide (l.length=b.roots.length)&&(!l.any DL&&decide (0≤b.step))
def AC1 (b:Bk) (l:List Vd):List UInt8:=Aa 65++Aa b.step.toNat++l.flatMap vdB
theorem XJ {b:Bk} {l:List Vd} (hr:b.roots.length≤8) (h64:b.step<9223372036854775808) (hl:l.length≤8) (hv:∀v∈l,Oo v):
 Cl 17 [vB b,.lst 60 .sh (l.map BO)] []=some (if okA b l=true then AFY (AC1 b l) (Aw l)else .tup [.str [],.int .i64 170],[]):=by
 have L1:=DF 60 .sh BO l
 have L2:=DF 55 .sh BB b.roots
 have an:=AFV (vB b) (l:=l) (by omega)
 have n2:AP [V.lst 60 .sh (l.map BO),Kw]=[V.lst 60 .sh (l.map BO),Kw]:=rfl
 by_cases h1:l.length=b.roots.length
 rotate_left
 ·have ne:AO .neq (.int .i64 (l.length:Int)) (.int .i64 (b.roots.length:Int))=some (.bool true):=by
   rw[b_neq]
   have:¬(l.length:Int)=(b.roots.length:Int):=by omega
   simp[this]
  rw[okA,decide_eq_false h1,Bool.false_and,if_neg (by simp),Ru]
  simp only[vB,GR]at an⊢
  generalize (l.length:Int)=z at*
  generalize l.map BO=L at*
  generalize (b.roots.length:Int)=zr at*
  (repeat' with_reducible first|refine(Aq _ _).trans ?_|refine(Au _ _).trans ?_|refine(AA _ _).trans ?_|((first|(refine' (AB ?_ _).trans ?_;rotate_left)|refine(if_pos ?_).trans ?_|refine(AZ ?_ _ _).trans ?_);focus (first|rfl|(simp(disch:=first|assumption|omega|with_reducible rfl|(simp only[go_sem]<;>omega)|fail) only[↓reduceIte,↓AA,Nat.reduceAdd,go_sem,Bool.not_true,Bool.not_false,L1,L2,ne]<;>first|rfl|omega)|assumption|omega))|(refine(AQ ?_ _ _).trans ?_;focus (first|(simp(disch:=first|assumption|omega|with_reducible rfl|(simp only[go_sem]<;>omega)|fail) only[↓reduceIte,↓AA,Nat.reduceAdd,go_sem,Bool.not_true,Bool.not_false,L1,L2,ne]<;>omega)|assumption|omega))|fail)
  rfl
 have ne:AO .neq (.int .i64 (l.length:Int)) (.int .i64 (b.roots.length:Int))=some (.bool false):=by rw[b_neq];simp[h1]
 by_cases h2:l.any DL=true
 ·rw[h2]at an
  rw[okA,h2,Bool.not_true,Bool.false_and,Bool.and_false,if_neg (by simp),Ru]
  simp only[vB,GR]at an⊢
  clear h2 hv
  generalize (l.length:Int)=z at*
  generalize l.map BO=L at*
  generalize (b.roots.length:Int)=zr at*
  (repeat' with_reducible first|refine(Aq _ _).trans ?_|refine(Au _ _).trans ?_|refine(AA _ _).trans ?_|((first|(refine' (AB ?_ _).trans ?_;rotate_left)|refine(if_pos ?_).trans ?_|refine(AZ ?_ _ _).trans ?_);focus (first|rfl|(simp(disch:=first|assumption|omega|with_reducible rfl|(simp only[go_sem]<;>omega)|fail) only[↓reduceIte,↓AA,Nat.reduceAdd,go_sem,Bool.not_true,Bool.not_false,L1,L2,ne,n2,an]<;>first|rfl|omega)|assumption|omega))|(refine(AQ ?_ _ _).trans ?_;focus (first|(simp(disch:=first|assumption|omega|with_reducible rfl|(simp only[go_sem]<;>omega)|fail) only[↓reduceIte,↓AA,Nat.reduceAdd,go_sem,Bool.not_true,Bool.not_false,L1,L2,ne,n2,an]<;>omega)|assumption|omega))|fail)
  rfl
 have h2':l.any DL=false:=by simpa using h2
 rw[h2']at an
 by_cases h3:0≤b.step
 rotate_left
 ·have ls:AO .lss (.int .i64 b.step) (.int .i64 0)=some (.bool true):=by rw[b_lss,decide_eq_true (by omega)]
  rw[okA,decide_eq_false h3,Bool.and_false,Bool.and_false,if_neg (by simp),Ru]
  simp only[vB,GR]at an⊢
  clear h2 h2' hv
  generalize (l.length:Int)=z at*
  generalize l.map BO=L at*
  generalize (b.roots.length:Int)=zr at*
  (repeat' with_reducible first|refine(Aq _ _).trans ?_|refine(Au _ _).trans ?_|refine(AA _ _).trans ?_|((first|(refine' (AB ?_ _).trans ?_;rotate_left)|refine(if_pos ?_).trans ?_|refine(AZ ?_ _ _).trans ?_);focus (first|rfl|(simp(disch:=first|assumption|omega|with_reducible rfl|(simp only[go_sem]<;>omega)|fail) only[↓reduceIte,↓AA,Nat.reduceAdd,go_sem,Bool.not_true,Bool.not_false,L1,L2,ne,n2,an,ls]<;>first|rfl|omega)|assumption|omega))|(refine(AQ ?_ _ _).trans ?_;focus (first|(simp(disch:=first|assumption|omega|with_reducible rfl|(simp only[go_sem]<;>omega)|fail) only[↓reduceIte,↓AA,Nat.reduceAdd,go_sem,Bool.not_true,Bool.not_false,L1,L2,ne,n2,an,ls]<;>omega)|assumption|omega))|fail)
  rfl
 have ls:AO .lss (.int .i64 b.step) (.int .i64 0)=some (.bool false):=by rw[b_lss,decide_eq_false (by omega)]
 have l0:=AIr (b:=vB b) hl hv l.length 0 .nil (Aa 65++Aa b.step.toNat) (by omega) (Or.inr rfl) (by
  have a:=Ac 10 65;have c:=Ac 10 b.step.toNat
  rw[List.length_append];simp only[Aa];omega)
 rw[List.take_zero,List.drop_zero]at l0
 have e0:(Aw []).map AV=[]:=rfl
 rw[e0]at l0
 have cv:F9 .u64 (.int .i64 b.step)=some (.int .u64 b.step):=cvI_u64 (by omega) (by omega)
 have o1:=Gn (a:=vB b) (f:= .nil) (l:=[]) (x:=65) ACb (by omega) (by omega) (by simp)
 have o2:=Gn (a:=vB b) (f:= .own) (l:=Aa 65) (x:=b.step) Gp h3 (by omega) (by have:=Ac 10 65;simp only[Aa];omega)
 have no:=VB (vB b)
 rw[List.nil_append]at o1
 have e65:(65:Int).toNat=65:=rfl
 rw[e65]at o1
 have n3:∀x:Int,AP [BK 1,V.int .u64 x]=[BK 1,.int .u64 x]:=fun x=>rfl
 have n0:AP []=[]:=rfl
 have ok:okA b l=true:=by rw[okA,decide_eq_true h1,h2',decide_eq_true h3];rfl
 rw[if_pos ok,AC1,←l0,Ru]
 simp only[vB,GR]at an no o1 o2⊢
 clear l0 h2 h2' hv ok
 generalize Aa 65++Aa b.step.toNat=x2 at*
 generalize Aa 65=x1 at*
 generalize (l.length:Int)=z at*
 generalize l.map BO=L at*
 generalize (b.roots.length:Int)=zr at*
 (repeat' with_reducible first|refine(Aq _ _).trans ?_|refine(Au _ _).trans ?_|refine(AA _ _).trans ?_|((first|(refine' (AB ?_ _).trans ?_;rotate_left)|refine(if_pos ?_).trans ?_|refine(AZ ?_ _ _).trans ?_);focus (first|rfl|(simp(disch:=first|assumption|omega|with_reducible rfl|(simp only[go_sem]<;>omega)|fail) only[↓reduceIte,↓AA,Nat.reduceAdd,go_sem,Bool.not_true,Bool.not_false,L1,L2,ne,n2,an,ls,no,n3,n0,o1,cv,o2]<;>first|rfl|omega)|assumption|omega))|(refine(AQ ?_ _ _).trans ?_;focus (first|(simp(disch:=first|assumption|omega|with_reducible rfl|(simp only[go_sem]<;>omega)|fail) only[↓reduceIte,↓AA,Nat.reduceAdd,go_sem,Bool.not_true,Bool.not_false,L1,L2,ne,n2,an,ls,no,n3,n0,o1,cv,o2]<;>omega)|assumption|omega))|fail)
 rfl
end
section
open Go AM
theorem Ky (l:List Msg):∀n i,EH l n i=true↔∀j,i≤j→j<i+n→mR (l.getD j default)=true∧(0<j→FX (l.getD (j-1) default) (l.getD j default)=false)
 |0,i=>by simp only[EH,true_iff];intro j h1 h2;omega
 |n+1,i=>by
  simp only[EH,Bool.and_eq_true,Bool.not_eq_true',Bool.and_eq_false_iff,decide_eq_false_iff_not,Ky l n (i+1)]
  constructor
  ·rintro ⟨⟨h1,h2⟩,h3⟩ j hj hj2
   by_cases e:j=i
   ·subst e
    exact⟨h2,fun h0=>h1.resolve_left (by omega)⟩
   ·exact h3 j (by omega) (by omega)
  ·intro h
   refine⟨⟨?_,(h i (by omega) (by omega)).1⟩,fun j h1 h2=>h j (by omega) (by omega)⟩
   by_cases h0:0<i
   ·exact Or.inr ((h i (by omega) (by omega)).2 h0)
   ·exact Or.inl h0
def Q7 (a b:Msg):Prop:=a.to<b.to∨(a.to=b.to∧a.fr<b.fr)
theorem AIs {a b:Msg} (h:I9 b a=false) (hd:FX a b=false):Q7 a b:=by
 rw[JY]at h
 simp only[FX,Bool.and_eq_false_iff,decide_eq_false_iff_not]at hd
 simp only[Q7];omega
def ZF (l:List Msg):Prop:=l.Pairwise fun a b=>FX a b=false
theorem XK {l m:List Msg} (h:l.Perm m):ZF l↔ZF m:=by
 refine h.pairwise_iff ?_
 intro a b hab
 simp only[FX,Bool.and_eq_false_iff,decide_eq_false_iff_not]at hab⊢
 omega
theorem AAF {l:List Msg} (hs:l.Pairwise fun x y=>(!I9 y x)=true):ZF l↔∀j,0<j→j<l.length→FX (l.getD (j-1) default) (l.getD j default)=false:=by
 constructor
 ·intro h j h0 hj
  have:=List.pairwise_iff_getElem.1 h (j-1) j (by omega) hj (by omega)
  rw[getD_lt hj,getD_lt (by omega)];exact this
 ·intro h
  have step:∀i (hi:i+1<l.length),Q7 l[i] l[i+1]:=by
   intro i hi
   have d:=h (i+1) (by omega) hi
   rw[getD_lt hi,getD_lt (by omega)]at d
   have s:=List.pairwise_iff_getElem.1 hs i (i+1) (by omega) hi (by omega)
   simp only[Bool.not_eq_true']at s
   exact AIs s d
  have far:∀n i (hi:i+1+n<l.length),Q7 l[i] l[i+1+n]:=by
   intro n
   induction n with
   |zero=>intro i hi;exact step i hi
   |succ n ih=>
    intro i hi
    have a:=ih i (by omega)
    have b:=step (i+1+n) (by omega)
    simp only[Q7]at a b⊢
    have e:i+1+(n+1)=i+1+n+1:=by omega
    simp only[e]
    omega
  refine List.pairwise_iff_getElem.2 fun i j hi hj hij=> ?_
  have:=far (j-i-1) i (by omega)
  have e:i+1+(j-i-1)=j:=by omega
  simp only[e,Q7]at this
  simp only[FX,Bool.and_eq_false_iff,decide_eq_false_iff_not];omega
theorem AC2 (l:List Msg):Ja l=true↔l.length≤512∧(∀m∈l,mR m=true)∧ZF l:=by
 have hp:(Bl l).Perm l:=List.mergeSort_perm l _
 simp only[Ja,Bool.and_eq_true,decide_eq_true_eq,Ky,←XK hp,AAF (Jb l),CU]
 refine and_congr_right fun h5=> ?_
 constructor
 ·intro h
  refine⟨fun m hm=> ?_,fun j h0 hj=>(h j (by omega) (by omega)).2 h0⟩
  obtain⟨j,hj,rfl⟩:=List.mem_iff_getElem.1 (hp.mem_iff.2 hm)
  rw[CU]at hj
  have:=(h j (by omega) (by omega)).1
  rwa [getD_lt (by rw[CU];exact hj)]at this
 ·rintro ⟨h1,h2⟩ j _ hj
  refine⟨?_,fun h0=>h2 j h0 (by omega)⟩
  rw[getD_lt (by rw[CU];omega)]
  exact h1 _ (hp.mem_iff.1 (List.getElem_mem _))
end
section
open Go AM
theorem VY (x:Int):Cl 58 [.int .i64 x] []=some (.bool (!(decide (x≤1125899906842624)&&decide (-1125899906842624≤x))),[]):=by
 rw[AHY]
 by_cases h:1125899906842624<x
 ·simp(disch:=first|assumption|omega|(with_reducible rfl)|(simp only[go_sem];done)|(simp only[go_sem];omega)|fail) only[↓reduceIte,↓AA,Nat.reduceAdd,go_sem]
  rw[decide_eq_false (by omega)];rfl
 ·by_cases h2:x< -1125899906842624
  ·simp(disch:=first|assumption|omega|(with_reducible rfl)|(simp only[go_sem];done)|(simp only[go_sem];omega)|fail) only[↓reduceIte,↓AA,Nat.reduceAdd,go_sem]
   rw[decide_eq_true h2,decide_eq_false (show ¬ -1125899906842624≤x by omega),Bool.and_false];rfl
  ·simp(disch:=first|assumption|omega|(with_reducible rfl)|(simp only[go_sem];done)|(simp only[go_sem];omega)|fail) only[↓reduceIte,↓AA,Nat.reduceAdd,go_sem]
   rw[decide_eq_false h2,decide_eq_true (show -1125899906842624≤x by omega),decide_eq_true (show x≤1125899906842624 by omega)];rfl
def Fa (l:List Msg) (m:Msg):Nat→Nat→Bool
 |0,_=>false
 |n+1,k=>FX (l.getD k default) m||Fa l m n (k+1)
theorem AC3 {l:List Msg} {i:Nat} (m:Msg) (hi:i<l.length) (hn:l.length≤1000000):∀(n k:Nat),k+n=i→
 SA (.lst 108 .sh (l.map AV)) (.int .i64 (i:Int)) (.ref 0 [] 108) (.int .i64 (k:Int)) 0 [AV m]=
  if Fa l m n k=true then some (.bool false,[])else NG (.lst 108 .sh (l.map AV)) (.int .i64 ((i+1:Nat):Int)) []:=by
 intro n
 induction n with
 |zero=>
  intro k hk
  have h:¬k<i:=by omega
  rw[QL,Fa,if_neg (by simp)]
  simp(disch:=first|assumption|omega|(with_reducible rfl)|(simp only[go_sem];done)|(simp only[go_sem];omega)|fail) only[↓reduceIte,↓AA,Nat.reduceAdd,go_sem]
 |succ n ih=>
  intro k hk
  have h:k<l.length:=by omega
  have hi':=ih (k+1) (by omega)
  have hx:(l.map AV)[k]?=some (AV (l.getD k default)):=JA h
  rw[QL,Fa]
  generalize l.getD k default=x at hx
  simp only[AV]at hi'
  by_cases h1:x.fr=m.fr
  ·by_cases h2:x.to=m.to
   ·rw[if_pos (by simp[FX,h1,h2])]
    simp(disch:=first|assumption|omega|(with_reducible rfl)|(simp only[go_sem];done)|(simp only[go_sem];omega)|fail) only[↓reduceIte,↓AA,Nat.reduceAdd,go_sem,hx,AV,h1,h2]
   ·rw[show(FX x m||Fa l m n (k+1))=Fa l m n (k+1)by simp[FX,h2],←hi']
    simp(disch:=first|assumption|omega|(with_reducible rfl)|(simp only[go_sem];done)|(simp only[go_sem];omega)|fail) only[↓reduceIte,↓AA,Nat.reduceAdd,go_sem,hx,AV,h1]
  ·rw[show(FX x m||Fa l m n (k+1))=Fa l m n (k+1)by simp[FX,h1],←hi']
   simp(disch:=first|assumption|omega|(with_reducible rfl)|(simp only[go_sem];done)|(simp only[go_sem];omega)|fail) only[↓reduceIte,↓AA,Nat.reduceAdd,go_sem,hx,AV]
def Gu (l:List Msg):Nat→Nat→Bool
 |0,_=>true
 |n+1,i=>mR (l.getD i default)&& !Fa l (l.getD i default) i 0&&Gu l n (i+1)
theorem AC4 {l:List Msg} (hn:l.length≤1000000):∀(n i:Nat),i+n=l.length→
 NG (.lst 108 .sh (l.map AV)) (.int .i64 (i:Int)) []=some (.bool (Gu l n i&&decide (l.length≤512)),[]):=by
 intro n
 induction n with
 |zero=>
  intro i hi
  have h:¬i<l.length:=by omega
  rw[QM,Gu]
  simp(disch:=first|assumption|omega|(with_reducible rfl)|(simp only[go_sem];done)|(simp only[go_sem];omega)|fail) only[↓reduceIte,↓AA,Nat.reduceAdd,go_sem]
  rw[show decide ((l.length:Int)≤512)=decide (l.length≤512)from decide_eq_decide.2 (by omega)]
 |succ n ih=>
  intro i hi
  have h:i<l.length:=by omega
  have h2:=AC3 (l.getD i default) h hn i 0 (by omega)
  have hi':=ih (i+1) (by omega)
  rw[hi']at h2
  generalize hm:l.getD i default=m at h2
  have hx:(l.map AV)[i]?=some (AV m):=by rw[JA h,hm]
  rw[QM,Gu,hm]
  by_cases g1:m.fr<0
  ·simp(disch:=first|assumption|omega|(with_reducible rfl)|(simp only[go_sem];done)|(simp only[go_sem];omega)|fail) only[↓reduceIte,↓AA,Nat.reduceAdd,go_sem,hx,AV]
   simp[mR,inR,g1];omega
  by_cases g2:63<m.fr
  ·simp(disch:=first|assumption|omega|(with_reducible rfl)|(simp only[go_sem];done)|(simp only[go_sem];omega)|fail) only[↓reduceIte,↓AA,Nat.reduceAdd,go_sem,hx,AV]
   simp[mR,inR];omega
  by_cases g3:m.to<0
  ·simp(disch:=first|assumption|omega|(with_reducible rfl)|(simp only[go_sem];done)|(simp only[go_sem];omega)|fail) only[↓reduceIte,↓AA,Nat.reduceAdd,go_sem,hx,AV]
   simp[mR,inR];omega
  by_cases g4:63<m.to
  ·simp(disch:=first|assumption|omega|(with_reducible rfl)|(simp only[go_sem];done)|(simp only[go_sem];omega)|fail) only[↓reduceIte,↓AA,Nat.reduceAdd,go_sem,hx,AV]
   simp[mR,inR];omega
  have e:mR m=(decide (m.val≤1125899906842624)&&decide (-1125899906842624≤m.val)):=by
   simp[mR,inR,show 0≤m.fr by omega,show m.fr<64 by omega,show 0≤m.to by omega,show m.to<64 by omega]
  by_cases g5:mR m=true
  ·have g5':=g5
   rw[e]at g5'
   simp(disch:=first|assumption|omega|(with_reducible rfl)|(simp only[go_sem];done)|(simp only[go_sem];omega)|fail) only[↓reduceIte,↓AA,Nat.reduceAdd,go_sem,hx,AV,VY,g5',Bool.not_true]
   simp only[AV]at h2
   rw[g5]
   refine h2.trans ?_
   cases Fa l m i 0<;>simp
  ·have g5':(decide (m.val≤1125899906842624)&&decide (-1125899906842624≤m.val))=false:=by rw[←e];simpa using g5
   have g6:mR m=false:=by simpa using g5
   simp(disch:=first|assumption|omega|(with_reducible rfl)|(simp only[go_sem];done)|(simp only[go_sem];omega)|fail) only[↓reduceIte,↓AA,Nat.reduceAdd,go_sem,hx,AV,VY,g5',Bool.not_false]
   rw[g6];rfl
theorem Q8 (l:List Msg) (m:Msg):∀n k,Fa l m n k=false↔∀j,k≤j→j<k+n→FX (l.getD j default) m=false
 |0,k=>by simp only[Fa,true_iff];intro j h1 h2;omega
 |n+1,k=>by
  simp only[Fa,Bool.or_eq_false_iff,Q8 l m n (k+1)]
  constructor
  ·rintro ⟨a,b⟩ j h1 h2
   by_cases e:j=k
   ·subst e;exact a
   ·exact b j (by omega) (by omega)
  ·intro h
   exact⟨h k (by omega) (by omega),fun j h1 h2=>h j (by omega) (by omega)⟩
theorem Oq (l:List Msg):∀n i,i+n=l.length→(Gu l n i=true↔∀j,i≤j→j<l.length→mR (l.getD j default)=true∧∀k,k<j→FX (l.getD k default) (l.getD j default)=false)
 |0,i,hi=>by simp only[Gu,true_iff];intro j h1 h2;omega
 |n+1,i,hi=>by
  simp only[Gu,Bool.and_eq_true,Bool.not_eq_true',Q8,Oq l n (i+1) (by omega)]
  constructor
  ·rintro ⟨⟨a,b⟩,c⟩ j h1 h2
   by_cases e:j=i
   ·subst e;exact⟨a,fun k hk=>b k (by omega) (by omega)⟩
   ·exact c j (by omega) h2
  ·intro h
   obtain⟨a,b⟩:=h i (by omega) (by omega)
   exact⟨⟨a,fun k _ hk=>b k (by omega)⟩,fun j h1 h2=>h j (by omega) h2⟩
theorem AAG (l:List Msg):(Gu l l.length 0&&decide (l.length≤512))=Ja l:=by
 rw[Bool.eq_iff_iff,AC2,Bool.and_eq_true,decide_eq_true_eq,Oq l l.length 0 (by omega)]
 constructor
 ·rintro ⟨a,b⟩
  refine⟨b,fun m hm=> ?_,List.pairwise_iff_getElem.2 fun i j hi hj hij=> ?_⟩
  ·obtain⟨j,hj,rfl⟩:=List.mem_iff_getElem.1 hm
   have:=(a j (by omega) hj).1
   rwa [getD_lt hj]at this
  ·have:=(a j (by omega) hj).2 i hij
   rwa [getD_lt hj,getD_lt hi]at this
 ·rintro ⟨b,c,d⟩
  refine⟨fun j _ hj=>⟨?_,fun k hk=> ?_⟩,b⟩
  ·rw[getD_lt hj];exact c _ (List.getElem_mem _)
  ·rw[getD_lt hj,getD_lt (by omega)]
   exact List.pairwise_iff_getElem.1 d k j (by omega) hj hk
theorem AC5 {l:List Msg} (hn:l.length≤1000000):Cl 26 [.lst 108 .sh (l.map AV)] []=some (.bool (Ja l),[]):=by
 rw[AHE,←AAG]
 exact AC4 hn l.length 0 (by omega)
end
section
open Go AM
theorem AIt {h:List V} {id:Nat} {p:List Nat} {x:List UInt8} (hh:rd h id p=some (BB x)) (hx:x.length=32):cvT h (.win id p 0 32 5)=some (.str x):=by
 have:Af h (.win id p 0 32 5)=some (bytesOf x):=by
  simp only[Af]
  rw[hh]
  simp[V.items,BB]
  rw[List.take_of_length_le (by rw[Ai];omega)]
 simp only[cvT,this,Option.bind_some,I4,Option.map_some]
theorem AFZ {b c:V} {l:List Vd} {i:Nat} (hi:i<l.length) (hl:l.length≤8) (hv:Oo l[i]) {sent:List Msg} (hs:sent.length≤20*i) {m0:Nat} (hm:m0=1):∀(n k:Nat) (s:List UInt8),k+n=l[i].known.length→s.length≤100000+400*k→
 Rx (.lst 60 .sh (l.map BO)) (.str s) (.lst 108 .own (sent.map AV)) (.int .i64 (i:Int)) (.int .i64 (k:Int)) m0 [b,c]=
  NF (.lst 60 .sh (l.map BO)) (.str (s++ZC (l[i].known.drop k))) (.lst 108 .own ((sent++l[i].sent).map AV)) (.int .i64 ((i+1:Nat):Int)) [b]:=by
 subst hm
 obtain⟨h32,h12,h300,h20,hmok⟩:=hv
 have ix:Di 60 (.lst 60 .sh (l.map BO)) (.int .i64 (i:Int))=some (.rop 60 (BO l[i])):=Ie (f:= .sh) (VT hi)
 have ln:=Om l[i].known
 have w:(sS l[i].known).weak=sS l[i].known:=rfl
 intro n
 induction n with
 |zero=>
  intro k s hk ha
  have ls:AO .lss (.int .i64 (k:Int)) (.int .i64 (l[i].known.length:Int))=some (.bool false):=by rw[b_lss,decide_eq_false (by omega)]
  have ad:AO .add (.int .i64 (i:Int)) (.int .i64 1)=some (.int .i64 ((i+1:Nat):Int)):=by rw[Dp,wrap_i64 (by omega) (by omega)];rfl
  have hc:AU (l[i].sent.map AV)=true:=(V.PFL _ (FW l[i].sent)).clean
  have ap:∀h:List V,GK 108 (BJ 107) false h (.lst 108 .own (sent.map AV)) (.lst 108 .sh (l[i].sent.map AV))=some (.lst 108 .own ((sent++l[i].sent).map AV)):=fun h=>by
   rw[AGn (Or.inl rfl) hc (Ob _) (by simp;omega),List.map_append];rfl
  have un:∀x s y z,Ad 1 [.lst 60 .sh x,.str s,.lst 108 .own y,.int .i64 z]=true:=fun x s y z=>rfl
  rw[List.drop_eq_nil_of_le (by omega),ZC,List.map_nil,List.flatten_nil,List.append_nil,QK]
  simp only[BO]at ix
  clear hc hmok h300
  generalize (sent++l[i].sent).map AV=S2 at*
  generalize sent.map AV=S1 at*
  generalize l[i].sent.map AV=S0 at*
  generalize (i+1:Nat)=j at*
  generalize l[i]=v at*
  generalize l.map BO=L at*
  generalize (v.known.length:Int)=z at*
  generalize sS v.known=S at*
  (repeat' with_reducible first|refine(Aq _ _).trans ?_|refine(Au _ _).trans ?_|refine(AA _ _).trans ?_|((first|(refine' (AB ?_ _).trans ?_;rotate_left)|refine(if_pos ?_).trans ?_|refine(AZ ?_ _ _).trans ?_);focus (first|rfl|(simp(disch:=first|assumption|omega|with_reducible rfl|(simp only[go_sem]<;>omega)|fail) only[↓reduceIte,↓AA,Nat.reduceAdd,go_sem,Bool.not_true,Bool.not_false,ix,w,ln,ls,ap,ad,un]<;>first|rfl|omega)|assumption|omega))|(refine(AQ ?_ _ _).trans ?_;focus (first|(simp(disch:=first|assumption|omega|with_reducible rfl|(simp only[go_sem]<;>omega)|fail) only[↓reduceIte,↓AA,Nat.reduceAdd,go_sem,Bool.not_true,Bool.not_false,ix,w,ln,ls,ap,ad,un]<;>omega)|assumption|omega))|fail)
  rfl
 |succ n ih=>
  intro k s hk ha
  have h:k<l[i].known.length:=by omega
  have hx:=h300 _ (List.getElem_mem h)
  have tl:=Gt (s:=l[i].known[k])
  have ls:AO .lss (.int .i64 (k:Int)) (.int .i64 (l[i].known.length:Int))=some (.bool true):=by rw[b_lss,decide_eq_true (by omega)]
  have ix2:Di 9 (sS l[i].known) (.int .i64 (k:Int))=some (.rop 9 (.str l[i].known[k])):=Ie (f:= .sh) (MR h)
  have ad:AO .add (.int .i64 (k:Int)) (.int .i64 1)=some (.int .i64 ((k+1:Nat):Int)):=by rw[Dp,wrap_i64 (by omega) (by omega)];rfl
  have tx:=Oj (s:=l[i].known[k]) (by omega)
  have a1:AO .add (.str s) (.str (DU l[i].known[k]))=some (.str (s++DU l[i].known[k])):=ET (by omega)
  have ih':=ih (k+1) (s++DU l[i].known[k]) (by omega) (by rw[List.length_append];omega)
  rw[List.drop_eq_getElem_cons h,ZC,List.map_cons,List.flatten_cons,←List.append_assoc]
  rw[ZC]at ih'
  rw[←ih',QK]
  simp only[BO]at ix
  clear ih ih' tl hmok h300
  generalize s++DU l[i].known[k]=s2 at*
  generalize DU l[i].known[k]=t at*
  generalize l[i].known[k]=x at*
  generalize (k+1:Nat)=j at*
  generalize l[i]=v at*
  generalize l.map BO=L at*
  generalize (v.known.length:Int)=z at*
  generalize sS v.known=S at*
  (repeat' with_reducible first|refine(Aq _ _).trans ?_|refine(Au _ _).trans ?_|refine(AA _ _).trans ?_|((first|(refine' (AB ?_ _).trans ?_;rotate_left)|refine(if_pos ?_).trans ?_|refine(AZ ?_ _ _).trans ?_);focus (first|rfl|(simp(disch:=first|assumption|omega|with_reducible rfl|(simp only[go_sem]<;>omega)|fail) only[↓reduceIte,↓AA,Nat.reduceAdd,go_sem,Bool.not_true,Bool.not_false,ix,w,ln,ls,ix2,tx,a1,ad]<;>first|rfl|omega)|assumption|omega))|(refine(AQ ?_ _ _).trans ?_;focus (first|(simp(disch:=first|assumption|omega|with_reducible rfl|(simp only[go_sem]<;>omega)|fail) only[↓reduceIte,↓AA,Nat.reduceAdd,go_sem,Bool.not_true,Bool.not_false,ix,w,ln,ls,ix2,tx,a1,ad]<;>omega)|assumption|omega))|fail)
  rfl
def Ot (s:List UInt8) (m:List Msg):V:=if Ja m=true then .tup [.str (s++DU (FY m)),.bool true]else .tup [.str [],.bool false]
theorem AFa {b:V} {l:List Vd} (hl:l.length≤8) (hv:∀v∈l,Oo v):∀(n i:Nat) (s:List UInt8),i+n=l.length→s.length≤20+3800*i→
 NF (.lst 60 .sh (l.map BO)) (.str s) (.lst 108 .own ((Aw (l.take i)).map AV)) (.int .i64 (i:Int)) [b]=some (if(l.drop i).any DL=true then .tup [.str [],.bool false]else Ot (s++(l.drop i).flatMap vdB) (Aw l),[]):=by
 intro n
 have L1:=DF 60 .sh BO l
 induction n with
 |zero=>
  intro i s hi ha
  have ls:AO .lss (.int .i64 (i:Int)) (.int .i64 (l.length:Int))=some (.bool false):=by rw[b_lss,decide_eq_false (by omega)]
  have sl:=Jd hv
  have pl:=VX (Aw l)
  have pt:=AFO (f:= .sh) (Or.inl rfl) (VW hv) (by omega)
  have rt:=AC5 (l:=Aw l) (by omega)
  have ry:∀h,AL h [V.lst 108 .own ((Aw l).map AV)]=[V.lst 108 .sh ((Aw l).map AV)]:=fun h=>rfl
  have ry2:∀h,AL h [V.lst 108 .sh ((Aw l).map AV)]=[V.lst 108 .sh ((Aw l).map AV)]:=fun h=>rfl
  have tx:=Oj (s:=FY (Aw l)) (by omega)
  have tl:=Gt (s:=FY (Aw l))
  have a1:AO .add (.str s) (.str (DU (FY (Aw l))))=some (.str (s++DU (FY (Aw l)))):=ET (by omega)
  rw[List.take_of_length_le (by omega),List.drop_eq_nil_of_le (by omega),List.flatMap_nil,List.append_nil,List.any_nil,if_neg (by simp)]
  cases hc:Ja (Aw l)with
  |true=>
   rw[hc]at rt
   rw[show Ot s (Aw l)= .tup [.str (s++DU (FY (Aw l))),.bool true]from if_pos hc,Hy]
   clear hc pl sl hv tl
   generalize s++DU (FY (Aw l))=s2 at*
   generalize DU (FY (Aw l))=t at*
   generalize FY (Aw l)=pb at*
   generalize (Aw l).map AV=S at*
   generalize (l.length:Int)=z at*
   generalize l.map BO=L at*
   (repeat' with_reducible first|refine(Aq _ _).trans ?_|refine(Au _ _).trans ?_|refine(AA _ _).trans ?_|((first|(refine' (AB ?_ _).trans ?_;rotate_left)|refine(if_pos ?_).trans ?_|refine(AZ ?_ _ _).trans ?_);focus (first|rfl|(simp(disch:=first|assumption|omega|with_reducible rfl|(simp only[go_sem]<;>omega)|fail) only[↓reduceIte,↓AA,Nat.reduceAdd,go_sem,Bool.not_true,Bool.not_false,L1,ls,ry,ry2,rt,pt,tx,a1]<;>first|rfl|omega)|assumption|omega))|(refine(AQ ?_ _ _).trans ?_;focus (first|(simp(disch:=first|assumption|omega|with_reducible rfl|(simp only[go_sem]<;>omega)|fail) only[↓reduceIte,↓AA,Nat.reduceAdd,go_sem,Bool.not_true,Bool.not_false,L1,ls,ry,ry2,rt,pt,tx,a1]<;>omega)|assumption|omega))|fail)
   rfl
  |false=>
   rw[hc]at rt
   rw[show Ot s (Aw l)= .tup [.str [],.bool false]from if_neg (by simp[hc]),Hy]
   clear hc pl sl hv tl a1 tx pt
   generalize (Aw l).map AV=S at*
   generalize (l.length:Int)=z at*
   generalize l.map BO=L at*
   (repeat' with_reducible first|refine(Aq _ _).trans ?_|refine(Au _ _).trans ?_|refine(AA _ _).trans ?_|((first|(refine' (AB ?_ _).trans ?_;rotate_left)|refine(if_pos ?_).trans ?_|refine(AZ ?_ _ _).trans ?_);focus (first|rfl|(simp(disch:=first|assumption|omega|with_reducible rfl|(simp only[go_sem]<;>omega)|fail) only[↓reduceIte,↓AA,Nat.reduceAdd,go_sem,Bool.not_true,Bool.not_false,L1,ls,ry,ry2,rt]<;>first|rfl|omega)|assumption|omega))|(refine(AQ ?_ _ _).trans ?_;focus (first|(simp(disch:=first|assumption|omega|with_reducible rfl|(simp only[go_sem]<;>omega)|fail) only[↓reduceIte,↓AA,Nat.reduceAdd,go_sem,Bool.not_true,Bool.not_false,L1,ls,ry,ry2,rt]<;>omega)|assumption|omega))|fail)
   rfl
 |succ n ih=>
  intro i s hi ha
  have h:i<l.length:=by omega
  have hx:=hv _ (List.getElem_mem h)
  have h32:=hx.1
  have sl:(Aw (l.take i)).length≤20*i:=by
   have:=Jd (l:=l.take i) (fun v hm=>hv v (List.mem_of_mem_take hm))
   rw[List.length_take]at this;omega
  have nl:=Ac 10 l[i].known.length
  have ls:AO .lss (.int .i64 (i:Int)) (.int .i64 (l.length:Int))=some (.bool true):=by rw[b_lss,decide_eq_true (by omega)]
  have ix:Di 60 (.lst 60 .sh (l.map BO)) (.int .i64 (i:Int))=some (.rop 60 (BO l[i])):=Ie (f:= .sh) (VT h)
  have ne:AO .neq (.int .i64 l[i].err) (.int .i64 0)=some (.bool (DL l[i])):=by
   rw[b_neq,DL];congr 2
   by_cases h:l[i].err=0<;>simp[h]
  rw[List.drop_eq_getElem_cons h,List.any_cons]
  cases ho:DL l[i]with
  |true=>
   rw[ho]at ne
   rw[Bool.true_or,if_pos rfl,Hy]
   simp only[BO]at ix
   clear ih ho hv hx h32 sl nl
   generalize l[i]=v at*
   generalize (l.length:Int)=zl at*
   generalize l.map BO=L at*
   (repeat' with_reducible first|refine(Aq _ _).trans ?_|refine(Au _ _).trans ?_|refine(AA _ _).trans ?_|((first|(refine' (AB ?_ _).trans ?_;rotate_left)|refine(if_pos ?_).trans ?_|refine(AZ ?_ _ _).trans ?_);focus (first|rfl|(simp(disch:=first|assumption|omega|with_reducible rfl|(simp only[go_sem]<;>omega)|fail) only[↓reduceIte,↓AA,Nat.reduceAdd,go_sem,Bool.not_true,Bool.not_false,L1,ls,ix,ne]<;>first|rfl|omega)|assumption|omega))|(refine(AQ ?_ _ _).trans ?_;focus (first|(simp(disch:=first|assumption|omega|with_reducible rfl|(simp only[go_sem]<;>omega)|fail) only[↓reduceIte,↓AA,Nat.reduceAdd,go_sem,Bool.not_true,Bool.not_false,L1,ls,ix,ne]<;>omega)|assumption|omega))|fail)
   rfl
  |false=>
   rw[ho]at ne
   have l2:=AFZ (b:=b) (c:=BB l[i].root) h hl hx sl (m0:=1) rfl l[i].known.length 0 (s++(l[i].root++Aa l[i].known.length)) (by omega) (by
    rw[List.length_append,List.length_append,h32];simp only[Aa];omega)
   have ih':=ih (i+1) (s++vdB l[i]) (by omega) (by rw[List.length_append];have:=ZE hx;omega)
   have e1:Aw (l.take (i+1))=Aw (l.take i)++l[i].sent:=by
    rw[←List.take_append_getElem h,Aw,Aw,List.flatMap_append,List.flatMap_cons,List.flatMap_nil,List.append_nil]
   have e2:s++(l[i].root++Aa l[i].known.length)++ZC (l[i].known.drop 0)=s++vdB l[i]:=by
    rw[List.drop_zero,vdB];simp only[List.append_assoc]
   rw[e2,←e1,ih']at l2
   rw[Bool.false_or,List.flatMap_cons,←List.append_assoc,←l2,Hy]
   have ln:=Om l[i].known
   have kl:l[i].known.length≤12:=hx.2.1
   have cv:F9 .u64 (.int .i64 (l[i].known.length:Int))=some (.int .u64 (l[i].known.length:Int)):=cvI_u64 (by omega) (by omega)
   have nm:=DZ (n:=l[i].known.length) (by omega)
   have w:(sS l[i].known).weak=sS l[i].known:=rfl
   have ct:cvT [b,BB l[i].root] (.win 1 [] 0 32 5)=some (.str l[i].root):=AIt rfl h32
   have a1:AO .add (.str l[i].root) (.str (Aa l[i].known.length))=some (.str (l[i].root++Aa l[i].known.length)):=ET (by rw[h32];simp only[Aa];omega)
   have a2:AO .add (.str s) (.str (l[i].root++Aa l[i].known.length))=some (.str (s++(l[i].root++Aa l[i].known.length))):=ET (by rw[List.length_append,h32];simp only[Aa];omega)
   clear ih ih' l2 e1 e2 nl hx ho
   simp only[BO]at ix
   generalize l[i]=v at*
   have st:∀z:V,DR (BJ 54) 55 [b,z] (.ref 1 [] 55) (BB v.root)=some [b,BB v.root]:=fun z=>by
    have h1:BJ 54 (BB v.root)=true:=MN _
    have h2:=(V.PF _ (I8 v.root)).under 2
    simp[DR,h1,h2,wr,V.upd]
   generalize s++(v.root++Aa v.known.length)=s3 at*
   generalize v.root++Aa v.known.length=s2 at*
   generalize Aa v.known.length=nb at*
   clear h32 sl hv
   generalize BB v.root=ar at*
   generalize hz:V.agg 54 (List.replicate 32 (V.int .u8 0))=z0 at*
   clear hz
   generalize v.bt.map BB=bb at*
   generalize v.sent.map AV=mm at*
   generalize (v.known.length:Int)=kk at*
   generalize sS v.known=ss at*
   generalize (l.length:Int)=zl at*
   generalize l.map BO=L at*
   generalize (Aw (l.take i)).map AV=S at*
   have l4:∀o:List V,BI o 58 (.rop 58 ss)=some ss:=fun o=>by show some ss.weak=_;rw[w]
   have sl:slA 55 54 32 5 (.ref 1 [] 55) none none none=some (.win 1 [] 0 32 5):=rfl
   (repeat' with_reducible first|refine(Aq _ _).trans ?_|refine(Au _ _).trans ?_|refine(AA _ _).trans ?_|((first|(refine' (AB ?_ _).trans ?_;rotate_left)|refine(if_pos ?_).trans ?_|refine(AZ ?_ _ _).trans ?_);focus (first|rfl|(simp(disch:=first|assumption|omega|with_reducible rfl|(simp only[go_sem]<;>omega)|fail) only[↓reduceIte,↓AA,Nat.reduceAdd,go_sem,Bool.not_true,Bool.not_false,L1,ls,ix,ne,st,sl,ct,l4,ln,cv,nm,a1,a2]<;>first|rfl|omega)|assumption|omega))|(refine(AQ ?_ _ _).trans ?_;focus (first|(simp(disch:=first|assumption|omega|with_reducible rfl|(simp only[go_sem]<;>omega)|fail) only[↓reduceIte,↓AA,Nat.reduceAdd,go_sem,Bool.not_true,Bool.not_false,L1,ls,ix,ne,st,sl,ct,l4,ln,cv,nm,a1,a2]<;>omega)|assumption|omega))|fail)
   rfl
theorem VZ {b:Bk} {l:List Vd} (hr:b.roots.length≤8) (h64:b.step<9223372036854775808) (hl:l.length≤8) (hv:∀v∈l,Oo v):
 Cl 19 [vB b,.lst 60 .sh (l.map BO)] []=some (if okA b l=true then Ot (AC1 b l) (Aw l)else .tup [.str [],.bool false],[]):=by
 have L1:=DF 60 .sh BO l
 have L2:=DF 55 .sh BB b.roots
 by_cases h1:l.length=b.roots.length
 rotate_left
 ·have ne:AO .neq (.int .i64 (l.length:Int)) (.int .i64 (b.roots.length:Int))=some (.bool true):=by
   rw[b_neq]
   have:¬(l.length:Int)=(b.roots.length:Int):=by omega
   simp[this]
  rw[okA,decide_eq_false h1,Bool.false_and,if_neg (by simp),WT]
  simp only[vB,GR]
  generalize (l.length:Int)=z at*
  generalize l.map BO=L at*
  generalize (b.roots.length:Int)=zr at*
  (repeat' with_reducible first|refine(Aq _ _).trans ?_|refine(Au _ _).trans ?_|refine(AA _ _).trans ?_|((first|(refine' (AB ?_ _).trans ?_;rotate_left)|refine(if_pos ?_).trans ?_|refine(AZ ?_ _ _).trans ?_);focus (first|rfl|(simp(disch:=first|assumption|omega|with_reducible rfl|(simp only[go_sem]<;>omega)|fail) only[↓reduceIte,↓AA,Nat.reduceAdd,go_sem,Bool.not_true,Bool.not_false,L1,L2,ne]<;>first|rfl|omega)|assumption|omega))|(refine(AQ ?_ _ _).trans ?_;focus (first|(simp(disch:=first|assumption|omega|with_reducible rfl|(simp only[go_sem]<;>omega)|fail) only[↓reduceIte,↓AA,Nat.reduceAdd,go_sem,Bool.not_true,Bool.not_false,L1,L2,ne]<;>omega)|assumption|omega))|fail)
  rfl
 have ne:AO .neq (.int .i64 (l.length:Int)) (.int .i64 (b.roots.length:Int))=some (.bool false):=by rw[b_neq];simp[h1]
 by_cases h3:0≤b.step
 rotate_left
 ·have ls:AO .lss (.int .i64 b.step) (.int .i64 0)=some (.bool true):=by rw[b_lss,decide_eq_true (by omega)]
  rw[okA,decide_eq_false h3,Bool.and_false,Bool.and_false,if_neg (by simp),WT]
  simp only[vB,GR]
  clear hv
  generalize (l.length:Int)=z at*
  generalize l.map BO=L at*
  generalize (b.roots.length:Int)=zr at*
  (repeat' with_reducible first|refine(Aq _ _).trans ?_|refine(Au _ _).trans ?_|refine(AA _ _).trans ?_|((first|(refine' (AB ?_ _).trans ?_;rotate_left)|refine(if_pos ?_).trans ?_|refine(AZ ?_ _ _).trans ?_);focus (first|rfl|(simp(disch:=first|assumption|omega|with_reducible rfl|(simp only[go_sem]<;>omega)|fail) only[↓reduceIte,↓AA,Nat.reduceAdd,go_sem,Bool.not_true,Bool.not_false,L1,L2,ne,ls]<;>first|rfl|omega)|assumption|omega))|(refine(AQ ?_ _ _).trans ?_;focus (first|(simp(disch:=first|assumption|omega|with_reducible rfl|(simp only[go_sem]<;>omega)|fail) only[↓reduceIte,↓AA,Nat.reduceAdd,go_sem,Bool.not_true,Bool.not_false,L1,L2,ne,ls]<;>omega)|assumption|omega))|fail)
  rfl
 have ls:AO .lss (.int .i64 b.step) (.int .i64 0)=some (.bool false):=by rw[b_lss,decide_eq_false (by omega)]
 have c:=Ac 10 b.step.toNat
 have e65:Aa 65=[65]:=by decide+kernel
 have l0:=AFa (b:=vB b) hl hv l.length 0 ([65]++Aa b.step.toNat) (by omega) (by
  rw[List.length_append];simp only[Aa,List.length_cons,List.length_nil];omega)
 rw[List.take_zero,List.drop_zero]at l0
 have e0:(Aw []).map AV=[]:=rfl
 rw[e0]at l0
 have cv:F9 .u64 (.int .i64 b.step)=some (.int .u64 (b.step.toNat:Int)):=by
  obtain⟨x,hx⟩:=Int.eq_ofNat_of_zero_le h3
  rw[hx,Int.toNat_natCast];exact cvI_u64 (by omega) (by omega)
 have nm:=DZ (n:=b.step.toNat) (by omega)
 have a1:AO .add (.str [65]) (.str (Aa b.step.toNat))=some (.str ([65]++Aa b.step.toNat)):=ET (by simp only[Aa,List.length_cons,List.length_nil];omega)
 have fin:(if okA b l=true then Ot (AC1 b l) (Aw l)else V.tup [.str [],.bool false])=(if l.any DL=true then .tup [.str [],.bool false]else Ot ([65]++Aa b.step.toNat++l.flatMap vdB) (Aw l)):=by
  rw[okA,decide_eq_true h1,decide_eq_true h3,Bool.true_and,Bool.and_true,AC1,e65]
  cases l.any DL<;>rfl
 rw[fin,←l0,WT]
 simp only[vB,GR]
 clear l0 hv fin c
 generalize [65]++Aa b.step.toNat=x2 at*
 generalize Aa b.step.toNat=x1 at*
 generalize (l.length:Int)=z at*
 generalize l.map BO=L at*
 generalize (b.roots.length:Int)=zr at*
 (repeat' with_reducible first|refine(Aq _ _).trans ?_|refine(Au _ _).trans ?_|refine(AA _ _).trans ?_|((first|(refine' (AB ?_ _).trans ?_;rotate_left)|refine(if_pos ?_).trans ?_|refine(AZ ?_ _ _).trans ?_);focus (first|rfl|(simp(disch:=first|assumption|omega|with_reducible rfl|(simp only[go_sem]<;>omega)|fail) only[↓reduceIte,↓AA,Nat.reduceAdd,go_sem,Bool.not_true,Bool.not_false,L1,L2,ne,ls,cv,nm,a1]<;>first|rfl|omega)|assumption|omega))|(refine(AQ ?_ _ _).trans ?_;focus (first|(simp(disch:=first|assumption|omega|with_reducible rfl|(simp only[go_sem]<;>omega)|fail) only[↓reduceIte,↓AA,Nat.reduceAdd,go_sem,Bool.not_true,Bool.not_false,L1,L2,ne,ls,cv,nm,a1]<;>omega)|assumption|omega))|fail)
 rfl
end
section
open Go AM
abbrev Ou:V:= .agg Zz [.int .i64 0,.lst 4 .nil [],.lst 55 .nil [],.lst 58 .nil [],.lst 108 .nil []]
theorem ALA (h0 h1 h2 h3 h4 h5 h6 h7 h8 h9 h10 x0 x2 x3 x4:V) (k:List V→Rv):
 Y8 80 (.lst 4 .sh ([false,false].map V.bool)) (.ref 11 [] 33) (.int .u64 1) 33 1 28 4 true [h0,h1,h2,h3,h4,h5,h6,h7,h8,h9,h10,.agg Zz [x0,.lst 4 .sh ([false,false].map V.bool),x2,x3,x4]] k=
  k [h0,h1,h2,h3,h4,h5,h6,h7,h8,h9,h10,.agg Zz [x0,.lst 4 .own ([false,true].map V.bool),x2,x3,x4]]:=ANP ..
theorem ANQ (r0 r1 p0 p1:List UInt8) (k0 k1 q0 q1:List (List UInt8)) (hN:Cl 10 [vG .sh g0,vJ j0,.int .i64 2] []=some (.tup [vB (Dk false p0 p1 q0 q1),.int .i64 0],[])):
 Cl 57 [vG .sh g0,vJ j0,vB (Dk false r0 r1 k0 k1),Zk 5] [vG .sh g0,vJ j0,vB (Dk false r0 r1 k0 k1),WJ,vB (Dk false p0 p1 q0 q1),OG [1] 0,WJ]=
  some (.tup [vB (Dk true p0 p1 q0 q1),.bool true],[vG .sh g0,vJ j0,vB (Dk false r0 r1 k0 k1),WJ,vB (Dk false p0 p1 q0 q1),OG [] 0,WJ]):=by
 have n55:Cl 55 [Zk 5] [vG .sh g0,vJ j0,vB (Dk false r0 r1 k0 k1),WJ,vB (Dk false p0 p1 q0 q1),OG [1] 0,WJ,vG .sh g0,vJ j0,vB (Dk false r0 r1 k0 k1),Ou]=some (.int .u64 1,[vG .sh g0,vJ j0,vB (Dk false r0 r1 k0 k1),WJ,vB (Dk false p0 p1 q0 q1),OG [] 0,WJ,vG .sh g0,vJ j0,vB (Dk false r0 r1 k0 k1),Ou]):=Cj.2 ⟨60,by kernel_rfl⟩
 have n86:Cl 86 [Zk 5] [vG .sh g0,vJ j0,vB (Dk false r0 r1 k0 k1),WJ,vB (Dk false p0 p1 q0 q1),OG [] 0,WJ,vG .sh g0,vJ j0,vB (Dk false r0 r1 k0 k1),Ou]=some (.int .i64 0,[vG .sh g0,vJ j0,vB (Dk false r0 r1 k0 k1),WJ,vB (Dk false p0 p1 q0 q1),OG [] 0,WJ,vG .sh g0,vJ j0,vB (Dk false r0 r1 k0 k1),Ou]):=Cj.2 ⟨60,by kernel_rfl⟩
 rw[AIo]
 simp only[Dk,List.map_cons,List.map_nil,zB]at n55 n86 hN⊢
 have hN':Cl 10 [vG .sh g0,vJ j0,.int .i64 ((2:Nat):Int)] []=_:=hN
 have hx:([false,false].map V.bool)[1]?=some (.bool false):=rfl
 simp(disch:=first|assumption|omega|(with_reducible rfl)|(simp only[go_sem];done)|(simp only[go_sem];omega)|fail) only[↓reduceIte,↓AA,Nat.reduceAdd,go_sem,n55,n86,hN',hx]
 refine(ALA _ _ _ _ _ _ _ _ _ _ _ _ _ _ _ _).trans ?_
 rfl
end
section
open Go AM
theorem AGo (r0 r1 p0 p1:List UInt8) (k0 k1 q0 q1:List (List UInt8)) (hN:Cl 10 [vG .sh g0,vJ j0,.int .i64 2] []=some (.tup [vB (Dk false p0 p1 q0 q1),.int .i64 0],[])):
 Cl 23 [vG .sh g0,vJ j0,vB (Dk false r0 r1 k0 k1),.str [69,1]] []=some (.tup [vB (Dk true p0 p1 q0 q1),.int .i64 0],[]):=by
 have n54:=OH [vG .sh g0,vJ j0,vB (Dk false r0 r1 k0 k1),Ou,vB (Dk false p0 p1 q0 q1)] [69,1]
 have n55:Cl 55 [Zk 5] [vG .sh g0,vJ j0,vB (Dk false r0 r1 k0 k1),Ou,vB (Dk false p0 p1 q0 q1),OG [69,1] 0,Ou]=some (.int .u64 69,[vG .sh g0,vJ j0,vB (Dk false r0 r1 k0 k1),Ou,vB (Dk false p0 p1 q0 q1),OG [1] 0,Ou]):=Cj.2 ⟨60,by kernel_rfl⟩
 have n57:Cl 57 [vG .sh g0,vJ j0,vB (Dk false r0 r1 k0 k1),Zk 5] [vG .sh g0,vJ j0,vB (Dk false r0 r1 k0 k1),Ou,vB (Dk false p0 p1 q0 q1),OG [1] 0,Ou]=_:=ANQ r0 r1 p0 p1 k0 k1 q0 q1 hN
 rw[WU]
 simp only[Dk,zB]at n54 n55 n57 hN⊢
 have hN':Cl 10 [vG .sh g0,vJ j0,.int .i64 ((2:Nat):Int)] []=_:=hN
 simp(disch:=first|assumption|omega|(with_reducible rfl)|(simp only[go_sem];done)|(simp only[go_sem];omega)|fail) only[↓reduceIte,↓AA,Nat.reduceAdd,go_sem,n54,n55,n57,hN']
end
section
open Go AM
theorem AGp (g1:Bool) (r0 r1 p0 p1:List UInt8) (k0 k1 q0 q1:List (List UInt8)) (hN:Cl 10 [vG .sh g0,vJ j0,.int .i64 2] []=some (.tup [vB (Dk false p0 p1 q0 q1),.int .i64 0],[])):
 Cl 23 [vG .sh g0,vJ j0,vB (Dk g1 r0 r1 k0 k1),.str Ol] []=some (.tup [vB (bk1 g1),.int .i64 0],[]):=by
 have n54:=OH [vG .sh g0,vJ j0,vB (Dk g1 r0 r1 k0 k1),Ou,vB (Dk false p0 p1 q0 q1)] Ol
 have n55:Cl 55 [Zk 5] [vG .sh g0,vJ j0,vB (Dk g1 r0 r1 k0 k1),Ou,vB (Dk false p0 p1 q0 q1),OG Ol 0,Ou]=some (.int .u64 65,[vG .sh g0,vJ j0,vB (Dk g1 r0 r1 k0 k1),Ou,vB (Dk false p0 p1 q0 q1),OG Ol.tail 0,Ou]):=Cj.2 ⟨60,by kernel_rfl⟩
 have n56:Cl 56 [vJ j0,vB (Dk g1 r0 r1 k0 k1),Zk 5] [vG .sh g0,vJ j0,vB (Dk g1 r0 r1 k0 k1),Ou,vB (Dk false p0 p1 q0 q1),OG Ol.tail 0,Ou]=_:=ANN g1 r0 r1 p0 p1 k0 k1 q0 q1
 rw[WU]
 generalize Ol=acc at*
 generalize bk1 g1=b1 at*
 simp only[Dk,zB]at n54 n55 n56 hN⊢
 have hN':Cl 10 [vG .sh g0,vJ j0,.int .i64 ((2:Nat):Int)] []=_:=hN
 simp(disch:=first|assumption|omega|(with_reducible rfl)|(simp only[go_sem];done)|(simp only[go_sem];omega)|fail) only[↓reduceIte,↓AA,Nat.reduceAdd,go_sem,n54,n55,n56,hN']
theorem ALB (p0 p1:List UInt8) (q0 q1:List (List UInt8)) (hN:Cl 10 [vG .sh g0,vJ j0,.int .i64 2] []=some (.tup [vB (Dk false p0 p1 q0 q1),.int .i64 0],[])):
 Cl 23 [vG .sh g0,vJ j0,vB (bk1 true),.str [120]] []=some (.tup [vB zB,.int .i64 171],[]):=by
 have n54:=OH [vG .sh g0,vJ j0,vB (bk1 true),Ou,vB (Dk false p0 p1 q0 q1)] [120]
 have n55:Cl 55 [Zk 5] [vG .sh g0,vJ j0,vB (bk1 true),Ou,vB (Dk false p0 p1 q0 q1),OG [120] 0,Ou]=some (.int .u64 120,[vG .sh g0,vJ j0,vB (bk1 true),Ou,vB (Dk false p0 p1 q0 q1),OG [] 0,Ou]):=Cj.2 ⟨60,by kernel_rfl⟩
 rw[WU]
 generalize List.replicate 32 (0:UInt8)=z32 at*
 simp only[Dk,bk1,zB]at n54 n55 hN⊢
 have hN':Cl 10 [vG .sh g0,vJ j0,.int .i64 ((2:Nat):Int)] []=_:=hN
 simp(disch:=first|assumption|omega|(with_reducible rfl)|(simp only[go_sem];done)|(simp only[go_sem];omega)|fail) only[↓reduceIte,↓AA,Nat.reduceAdd,go_sem,n54,n55,hN']
 rfl
end
section
open Go AM
theorem ALC (p0 p1:List UInt8) (q0 q1:List (List UInt8)) (hN:Cl 10 [vG .sh g0,vJ j0,.int .i64 2] []=some (.tup [vB (Dk false p0 p1 q0 q1),.int .i64 0],[])):
 Cl 28 [vG .sh g0,vJ j0,.int .i64 2,.lst 9 .sh [.str [69,1],.str Ol,.str [120]]] []=some (.tup [vB (bk1 true),.int .i64 2,.int .i64 0],[]):=by
 have a1:=AGo p0 p1 p0 p1 q0 q1 q0 q1 hN
 have a2:=AGp true p0 p1 p0 p1 q0 q1 q0 q1 hN
 have a3:=ALB p0 p1 q0 q1 hN
 rw[AHG]
 generalize Ol=acc at*
 generalize bk1 true=b3 at*
 generalize Dk true p0 p1 q0 q1=b2 at*
 generalize Dk false p0 p1 q0 q1=b1 at*
 have ix1:∀a b c:V,Di 9 (.lst 9 .sh [a,b,c]) (.int .i64 (0+1))=some (.rop 9 b):=fun _ _ _=>rfl
 have ix2:∀a b c:V,Di 9 (.lst 9 .sh [a,b,c]) (.int .i64 (0+1+1))=some (.rop 9 c):=fun _ _ _=>rfl
 simp(disch:=first|assumption|omega|(with_reducible rfl)|(simp only[go_sem];done)|(simp only[go_sem];omega)|fail) only[↓reduceIte,↓AA,Nat.reduceAdd,go_sem,hN]
 rw[J6]
 simp(disch:=first|assumption|omega|(with_reducible rfl)|(simp only[go_sem];done)|(simp only[go_sem];omega)|fail) only[↓reduceIte,↓AA,Nat.reduceAdd,go_sem,a1]
 rw[J6]
 simp(disch:=first|assumption|omega|(with_reducible rfl)|(simp only[go_sem];done)|(simp only[go_sem];omega)|fail) only[↓reduceIte,↓AA,Nat.reduceAdd,go_sem,a2,ix1]
 rw[J6]
 simp(disch:=first|assumption|omega|(with_reducible rfl)|(simp only[go_sem];done)|(simp only[go_sem];omega)|fail) only[↓reduceIte,↓AA,Nat.reduceAdd,go_sem,a3,ix2]
 rfl
end
end Go.Proofs.YtiegkempfolgcaaGreatDoor
